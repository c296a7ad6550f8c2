/- Several texts of this claim in one. -/
import Derived.Test.YtpimooejnpdlpaaGreatDoorME
import Derived.Test.YtpimooejnpdlpaaGreatDoorMP
/- Plain laws of trees of bags: what goes up and down; the search from the root; what hangs together. -/
set_option linter.unusedVariables false
set_option linter.unusedSimpArgs false
namespace Go.Proofs.YtpimooejnpdlpaaGreatDoor.G
open Go.RowKit Go.Proofs.YtpimooejnpdlpaaGreatDoorW.PrintWords Go.Proofs.YtpimooejnpdlpaaGreatDoorW.PrintLast Go.Proofs.YtpimooejnpdlpaaGreatDoorW.PrintMore

/-! ### families of rows over a tree -/
/-- The rows at a are cut to what goes with those at b. -/
def semiF (sc : Nat → List Int) (a b : Nat) (F : Nat → List (List Int)) : Nat → List (List Int) := fun k => if k = a then semiRows (sc a) (F a) (sc b) (F b) else F k
def upF (sc : Nat → List Int) (par : Nat → Option Nat) (ord : List Nat) (F : Nat → List (List Int)) : Nat → List (List Int) :=
  ord.foldl (fun F i => match par i with | some p => semiF sc p i F | none => F) F
def downF (sc : Nat → List Int) (par : Nat → Option Nat) (ord : List Nat) (F : Nat → List (List Int)) : Nat → List (List Int) :=
  ord.foldl (fun F i => match par i with | some p => semiF sc i p F | none => F) F
theorem semiF_eq (sc : Nat → List Int) (a b : Nat) (F : Nat → List (List Int)) : semiF sc a b F a = semiRows (sc a) (F a) (sc b) (F b) := if_pos rfl
theorem semiF_ne (sc : Nat → List Int) {a k : Nat} (b : Nat) (F : Nat → List (List Int)) (h : k ≠ a) : semiF sc a b F k = F k := if_neg h
theorem semiF_sub (sc : Nat → List Int) (a b : Nat) (F : Nat → List (List Int)) (k : Nat) : (semiF sc a b F k).Sublist (F k) := by
  by_cases h : k = a
  · subst h; rw [semiF_eq]; exact List.filter_sublist
  · rw [semiF_ne sc b F h]; exact List.Sublist.refl _
theorem upF_snoc_some (sc : Nat → List Int) (par : Nat → Option Nat) (ord : List Nat) (F : Nat → List (List Int)) {i p : Nat} (h : par i = some p) : upF sc par (ord ++ [i]) F = semiF sc p i (upF sc par ord F) := by
  simp [upF, List.foldl_append, h]
theorem upF_snoc_none (sc : Nat → List Int) (par : Nat → Option Nat) (ord : List Nat) (F : Nat → List (List Int)) {i : Nat} (h : par i = none) : upF sc par (ord ++ [i]) F = upF sc par ord F := by
  simp [upF, List.foldl_append, h]
theorem downF_snoc_some (sc : Nat → List Int) (par : Nat → Option Nat) (ord : List Nat) (F : Nat → List (List Int)) {i p : Nat} (h : par i = some p) : downF sc par (ord ++ [i]) F = semiF sc i p (downF sc par ord F) := by
  simp [downF, List.foldl_append, h]
theorem downF_snoc_none (sc : Nat → List Int) (par : Nat → Option Nat) (ord : List Nat) (F : Nat → List (List Int)) {i : Nat} (h : par i = none) : downF sc par (ord ++ [i]) F = downF sc par ord F := by
  simp [downF, List.foldl_append, h]
theorem snocN {P : List Nat → Prop} (h0 : P []) (h1 : ∀ l x, P l → P (l ++ [x])) (l : List Nat) : P l := by
  have h : ∀ n (l : List Nat), l.length = n → P l := by
    intro n
    induction n with
    | zero => intro l hl; rw [List.length_eq_zero_iff.1 hl]; exact h0
    | succ n ih =>
      intro l hl
      have hne : l ≠ [] := by rintro rfl; simp at hl
      rw [← List.dropLast_concat_getLast hne]
      exact h1 _ _ (ih _ (by rw [List.length_dropLast]; omega))
  exact h _ l rfl
theorem upF_sub (sc : Nat → List Int) (par : Nat → Option Nat) (ord : List Nat) (F : Nat → List (List Int)) (k : Nat) : (upF sc par ord F k).Sublist (F k) := by
  induction ord using snocN with
  | h0 => exact List.Sublist.refl _
  | h1 l i ih =>
    cases h : par i with
    | none => rw [upF_snoc_none sc par l F h]; exact ih
    | some p => rw [upF_snoc_some sc par l F h]; exact (semiF_sub sc p i _ k).trans ih
theorem downF_sub (sc : Nat → List Int) (par : Nat → Option Nat) (ord : List Nat) (F : Nat → List (List Int)) (k : Nat) : (downF sc par ord F k).Sublist (F k) := by
  induction ord using snocN with
  | h0 => exact List.Sublist.refl _
  | h1 l i ih =>
    cases h : par i with
    | none => rw [downF_snoc_none sc par l F h]; exact ih
    | some p => rw [downF_snoc_some sc par l F h]; exact (semiF_sub sc i p _ k).trans ih
/-- What is at p, once all has gone up: what goes with something of each child. -/
theorem up_mem (sc : Nat → List Int) (par : Nat → Option Nat) (F : Nat → List (List Int)) : ∀ (ord : List Nat), ord.Pairwise (fun a b => par b ≠ some a) → (∀ i ∈ ord, par i ≠ some i) → ∀ p t,
    t ∈ upF sc par ord F p ↔ t ∈ F p ∧ ∀ c ∈ ord, par c = some p → ∃ u ∈ upF sc par ord F c, fits (sc p) (sc c) t u = true := by
  intro ord
  induction ord using snocN with
  | h0 => intro _ _ p t; simp [upF]
  | h1 l i ih =>
    intro hp hi p t
    rw [List.pairwise_append] at hp
    have ih := ih hp.1 fun j hj => hi j (List.mem_append_left _ hj)
    have hlast : ∀ a ∈ l, par i ≠ some a := fun a ha => hp.2.2 a ha i (List.mem_singleton.2 rfl)
    have hii := hi i (List.mem_append_right _ (List.mem_singleton.2 rfl))
    cases h : par i with
    | none =>
      rw [upF_snoc_none sc par l F h, ih p t]
      refine and_congr Iff.rfl ⟨fun hc c hcm hcp => ?_, fun hc c hcm hcp => hc c (List.mem_append_left _ hcm) hcp⟩
      rcases List.mem_append.1 hcm with e | e
      · exact hc c e hcp
      · rw [List.mem_singleton.1 e, h] at hcp; cases hcp
    | some q =>
      rw [upF_snoc_some sc par l F h]
      have hch : ∀ c ∈ l, semiF sc q i (upF sc par l F) c = upF sc par l F c := fun c hc => semiF_ne sc i _ fun e => hlast c hc (by rw [h, e])
      have hiq : i ≠ q := fun e => hii (by rw [h, e])
      by_cases hpq : p = q
      · subst hpq
        rw [semiF_eq, mem_semi, ih p t]
        constructor
        · rintro ⟨⟨h1, h2⟩, u, hu, hf⟩
          refine ⟨h1, fun c hcm hcp => ?_⟩
          rcases List.mem_append.1 hcm with e | e
          · rw [hch c e]; exact h2 c e hcp
          · rw [List.mem_singleton.1 e, semiF_ne sc i _ hiq]; exact ⟨u, hu, hf⟩
        · rintro ⟨h1, h2⟩
          refine ⟨⟨h1, fun c hcm hcp => ?_⟩, ?_⟩
          · have := h2 c (List.mem_append_left _ hcm) hcp
            rwa [hch c hcm] at this
          · have := h2 i (List.mem_append_right _ (List.mem_singleton.2 rfl)) h
            rwa [semiF_ne sc i _ hiq] at this
      · rw [semiF_ne sc i _ hpq, ih p t]
        refine and_congr Iff.rfl ⟨fun hc c hcm hcp => ?_, fun hc c hcm hcp => ?_⟩
        · rcases List.mem_append.1 hcm with e | e
          · rw [hch c e]; exact hc c e hcp
          · rw [List.mem_singleton.1 e, h] at hcp
            exact absurd (Option.some.inj hcp).symm hpq
        · have := hc c (List.mem_append_left _ hcm) hcp
          rwa [hch c hcm] at this
/-- What is at i, once all has gone down: what goes with something of the parent. -/
theorem down_mem (sc : Nat → List Int) (par : Nat → Option Nat) (F : Nat → List (List Int)) : ∀ (ord : List Nat), ord.Pairwise (fun a b => par a ≠ some b) → ord.Nodup → (∀ i ∈ ord, par i ≠ some i) → ∀ i t,
    t ∈ downF sc par ord F i ↔ t ∈ F i ∧ (i ∈ ord → ∀ p, par i = some p → ∃ u ∈ downF sc par ord F p, fits (sc i) (sc p) t u = true) := by
  intro ord
  induction ord using snocN with
  | h0 => intro _ _ _ i t; simp [downF]
  | h1 l i0 ih =>
    intro hp hn hs i t
    rw [List.pairwise_append] at hp
    rw [List.nodup_append] at hn
    have ih := ih hp.1 hn.1 fun j hj => hs j (List.mem_append_left _ hj)
    have hlast : ∀ a ∈ l, par a ≠ some i0 := fun a ha => hp.2.2 a ha i0 (List.mem_singleton.2 rfl)
    have hii := hs i0 (List.mem_append_right _ (List.mem_singleton.2 rfl))
    have hnew : ¬ i0 ∈ l := fun hm => hn.2.2 i0 hm i0 (List.mem_singleton.2 rfl) rfl
    cases h : par i0 with
    | none =>
      rw [downF_snoc_none sc par l F h, ih i t]
      refine and_congr Iff.rfl ⟨fun hc him p hip => ?_, fun hc him p hip => hc (List.mem_append_left _ him) p hip⟩
      rcases List.mem_append.1 him with e | e
      · exact hc e p hip
      · rw [List.mem_singleton.1 e, h] at hip; cases hip
    | some q =>
      rw [downF_snoc_some sc par l F h]
      have hqi : q ≠ i0 := fun e => hii (by rw [h, e])
      by_cases hi : i = i0
      · subst hi
        rw [semiF_eq, mem_semi, ih i t]
        constructor
        · rintro ⟨⟨h1, _⟩, u, hu, hf⟩
          refine ⟨h1, fun _ p hip => ?_⟩
          rw [h] at hip
          obtain rfl := Option.some.inj hip
          rw [semiF_ne sc _ _ hqi]
          exact ⟨u, hu, hf⟩
        · rintro ⟨h1, h2⟩
          have := h2 (List.mem_append_right _ (List.mem_singleton.2 rfl)) q h
          rw [semiF_ne sc _ _ hqi] at this
          exact ⟨⟨h1, fun hm => absurd hm hnew⟩, this⟩
      · rw [semiF_ne sc _ _ hi, ih i t]
        refine and_congr Iff.rfl ⟨fun hc him p hip => ?_, fun hc him p hip => ?_⟩
        · rcases List.mem_append.1 him with e | e
          · have hpi : p ≠ i0 := fun e' => hlast i e (by rw [hip, e'])
            rw [semiF_ne sc _ _ hpi]; exact hc e p hip
          · exact absurd (List.mem_singleton.1 e) hi
        · have hpi : p ≠ i0 := fun e' => hlast i him (by rw [hip, e'])
          have := hc (List.mem_append_left _ him) p hip
          rwa [semiF_ne sc _ _ hpi] at this

/-- A tree of n bags: each bag's parent is one of them, and nearer to the root. -/
structure TreeOf (n : Nat) (par : Nat → Option Nat) (dep : Nat → Nat) : Prop where
  lt : ∀ i p, i < n → par i = some p → p < n ∧ dep p < dep i
  out : ∀ i, n ≤ i → par i = none
theorem TreeOf.ne {n : Nat} {par : Nat → Option Nat} {dep : Nat → Nat} (h : TreeOf n par dep) (i : Nat) : par i ≠ some i := fun e => by
  by_cases hi : i < n
  · have := (h.lt i i hi e).2; omega
  · rw [h.out i (by omega)] at e; cases e
theorem TreeOf.low {n : Nat} {par : Nat → Option Nat} {dep : Nat → Nat} (h : TreeOf n par dep) {i p : Nat} (e : par i = some p) : i < n := by
  by_cases hi : i < n
  · exact hi
  · rw [h.out i (by omega)] at e; cases e
/-- All bags, each behind its children. -/
structure Behind (n : Nat) (par : Nat → Option Nat) (ord : List Nat) : Prop where
  nodup : ord.Nodup
  mem : ∀ i, i ∈ ord ↔ i < n
  pw : ord.Pairwise fun a b => par b ≠ some a

section
variable {n : Nat} {par : Nat → Option Nat} {dep : Nat → Nat} (sc : Nat → List Int)
theorem up_is (hT : TreeOf n par dep) {ord : List Nat} (hB : Behind n par ord) (F : Nat → List (List Int)) (p : Nat) (t : List Int) :
    t ∈ upF sc par ord F p ↔ t ∈ F p ∧ ∀ c, par c = some p → ∃ u ∈ upF sc par ord F c, fits (sc p) (sc c) t u = true := by
  rw [up_mem sc par F ord hB.pw (fun i _ => hT.ne i) p t]
  exact and_congr Iff.rfl ⟨fun h c hc => h c ((hB.mem c).2 (hT.low hc)) hc, fun h c _ hc => h c hc⟩
theorem down_is (hT : TreeOf n par dep) {ord : List Nat} (hB : Behind n par ord) (F : Nat → List (List Int)) (i : Nat) (t : List Int) :
    t ∈ downF sc par ord.reverse F i ↔ t ∈ F i ∧ ∀ p, par i = some p → ∃ u ∈ downF sc par ord.reverse F p, fits (sc i) (sc p) t u = true := by
  rw [down_mem sc par F ord.reverse (List.pairwise_reverse.2 hB.pw) (List.pairwise_reverse.2 (hB.nodup.imp fun h => Ne.symm h)) (fun i _ => hT.ne i) i t]
  exact and_congr Iff.rfl ⟨fun h p hp => h (List.mem_reverse.2 ((hB.mem i).2 (hT.low hp))) p hp, fun h _ p hp => h p hp⟩
/-- All goes up, then down. -/
def redF (sc : Nat → List Int) (par : Nat → Option Nat) (ord : List Nat) (F : Nat → List (List Int)) : Nat → List (List Int) := downF sc par ord.reverse (upF sc par ord F)
theorem redF_sub (par : Nat → Option Nat) (ord : List Nat) (F : Nat → List (List Int)) (k : Nat) : (redF sc par ord F k).Sublist (F k) := (downF_sub sc par _ _ k).trans (upF_sub sc par ord F k)
/-- Once all is reduced, each row goes with something of the parent, and of each child. -/
theorem red_up (hT : TreeOf n par dep) {ord : List Nat} (hB : Behind n par ord) (F : Nat → List (List Int)) {i p : Nat} (h : par i = some p) {t : List Int} (ht : t ∈ redF sc par ord F i) : ∃ u ∈ redF sc par ord F p, fits (sc i) (sc p) t u = true :=
  ((down_is sc hT hB _ i t).1 ht).2 p h
theorem red_down (hT : TreeOf n par dep) {ord : List Nat} (hB : Behind n par ord) (F : Nat → List (List Int)) {i p : Nat} (h : par i = some p) {t : List Int} (ht : t ∈ redF sc par ord F p) : ∃ u ∈ redF sc par ord F i, fits (sc p) (sc i) t u = true := by
  have h1 := ((down_is sc hT hB _ p t).1 ht).1
  obtain ⟨u, hu, hf⟩ := ((up_is sc hT hB F p t).1 h1).2 i h
  refine ⟨u, (down_is sc hT hB _ i u).2 ⟨hu, fun q hq => ?_⟩, hf⟩
  rw [h] at hq
  obtain rfl := Option.some.inj hq
  exact ⟨t, ht, by rw [fits_symm]; exact hf⟩
/-- What is settled. -/
def Settl (sc : Nat → List Int) (par : Nat → Option Nat) (F : Nat → List (List Int)) : Prop :=
  ∀ i p, par i = some p → (∀ t ∈ F i, ∃ u ∈ F p, fits (sc i) (sc p) t u = true) ∧ (∀ t ∈ F p, ∃ u ∈ F i, fits (sc p) (sc i) t u = true)
theorem red_settled (hT : TreeOf n par dep) {ord : List Nat} (hB : Behind n par ord) (F : Nat → List (List Int)) : Settl sc par (redF sc par ord F) :=
  fun _ _ h => ⟨fun _ ht => red_up sc hT hB F h ht, fun _ ht => red_down sc hT hB F h ht⟩
theorem semi_fix {sc : Nat → List Int} {F : Nat → List (List Int)} {a b : Nat} (h : ∀ t ∈ F a, ∃ u ∈ F b, fits (sc a) (sc b) t u = true) : semiF sc a b F = F := by
  funext k
  by_cases hk : k = a
  · subst hk
    rw [semiF_eq, semiRows, List.filter_eq_self]
    intro t ht
    obtain ⟨u, hu, hf⟩ := h t ht
    exact List.any_eq_true.2 ⟨u, hu, hf⟩
  · exact semiF_ne sc b F hk
theorem up_fix {F : Nat → List (List Int)} (h : Settl sc par F) (ord : List Nat) : upF sc par ord F = F := by
  induction ord using snocN with
  | h0 => rfl
  | h1 l i ih =>
    cases hi : par i with
    | none => rw [upF_snoc_none sc par l F hi, ih]
    | some p => rw [upF_snoc_some sc par l F hi, ih, semi_fix (h i p hi).2]
theorem down_fix {F : Nat → List (List Int)} (h : Settl sc par F) (ord : List Nat) : downF sc par ord F = F := by
  induction ord using snocN with
  | h0 => rfl
  | h1 l i ih =>
    cases hi : par i with
    | none => rw [downF_snoc_none sc par l F hi, ih]
    | some p => rw [downF_snoc_some sc par l F hi, ih, semi_fix (h i p hi).1]
theorem red_fix {F : Nat → List (List Int)} (h : Settl sc par F) (ord : List Nat) : redF sc par ord F = F := by
  rw [redF, up_fix sc h, down_fix sc h]

/-! ### what goes together of all -/
end
/-! ### all bags, from the root on -/
def dfsG (kids : Nat → List Nat) : Nat → List Nat → List Nat → List Nat
  | 0, _, out => out
  | _ + 1, [], out => out
  | f + 1, i :: s, out => dfsG kids f ((kids i).reverse ++ s) (out ++ [i])
/-- Between two steps of the search. -/
structure DfsInv (n : Nat) (par : Nat → Option Nat) (root : Nat) (s out : List Nat) : Prop where
  nodup : (out ++ s).Nodup
  low : ∀ x ∈ out ++ s, x < n
  up : ∀ x ∈ out ++ s, x = root ∨ ∃ p ∈ out, par x = some p
  kids : ∀ x ∈ out, ∀ c, par c = some x → c ∈ out ++ s
  pw : out.Pairwise fun a b => par a ≠ some b
  root : root ∈ out ++ s
theorem DfsInv.step {n : Nat} {par : Nat → Option Nat} {dep : Nat → Nat} {root : Nat} {s out : List Nat} {i : Nat} (hT : TreeOf n par dep) (hr : par root = none) (h : DfsInv n par root (i :: s) out) (ks : List Nat) (hk : ks.Nodup) (hm : ∀ c, c ∈ ks ↔ par c = some i) :
    DfsInv n par root (ks ++ s) (out ++ [i]) := by
  have hn := h.nodup
  rw [List.nodup_append] at hn
  obtain ⟨hn1, hn2, hn3⟩ := hn
  rw [List.nodup_cons] at hn2
  have hio : ¬ i ∈ out := fun e => hn3 i e i List.mem_cons_self rfl
  have hnew : ∀ c ∈ ks, ¬ c ∈ out ∧ ¬ c ∈ s ∧ c ≠ i := fun c hc => by
    have hcp := (hm c).1 hc
    have hno : ¬ c ∈ out ++ i :: s := fun e => by
      rcases h.up c e with e' | ⟨p, hp, e'⟩
      · rw [e', hr] at hcp; cases hcp
      · rw [hcp] at e'
        exact hio (by rw [Option.some.inj e']; exact hp)
    exact ⟨fun e => hno (List.mem_append_left _ e), fun e => hno (List.mem_append_right _ (List.mem_cons_of_mem _ e)), fun e => hT.ne i (by rw [← e]; rw [e] at hcp ⊢; exact hcp)⟩
  refine ⟨?_, ?_, ?_, ?_, ?_, ?_⟩
  · rw [List.nodup_append]
    refine ⟨?_, ?_, ?_⟩
    · rw [List.nodup_append]
      exact ⟨hn1, by simp, fun a ha b hb e => hio (by rw [List.mem_singleton.1 hb] at e; rw [← e]; exact ha)⟩
    · rw [List.nodup_append]
      exact ⟨hk, hn2.2, fun a ha b hb e => (hnew a ha).2.1 (by rw [e]; exact hb)⟩
    · intro a ha b hb e
      subst e
      rcases List.mem_append.1 ha with ha | ha
      · rcases List.mem_append.1 hb with hb | hb
        · exact (hnew a hb).1 ha
        · exact hn3 a ha a (List.mem_cons_of_mem _ hb) rfl
      · rw [List.mem_singleton] at ha
        subst ha
        rcases List.mem_append.1 hb with hb | hb
        · exact (hnew a hb).2.2 rfl
        · exact hn2.1 hb
  · intro x hx
    simp only [List.mem_append, List.mem_singleton] at hx
    rcases hx with (hx | hx) | hx | hx
    · exact h.low x (List.mem_append_left _ hx)
    · exact h.low x (by rw [hx]; simp)
    · exact hT.low ((hm x).1 hx)
    · exact h.low x (by simp [hx])
  · intro x hx
    simp only [List.mem_append, List.mem_singleton] at hx
    have hold : x ∈ out ++ i :: s → x = root ∨ ∃ p ∈ out ++ [i], par x = some p := fun e => (h.up x e).imp_right fun ⟨p, hp, e⟩ => ⟨p, List.mem_append_left _ hp, e⟩
    rcases hx with (hx | hx) | hx | hx
    · exact hold (List.mem_append_left _ hx)
    · exact hold (by rw [hx]; simp)
    · exact .inr ⟨i, by simp, (hm x).1 hx⟩
    · exact hold (by simp [hx])
  · intro x hx c hc
    rcases List.mem_append.1 hx with hx | hx
    · have := h.kids x hx c hc
      simp only [List.mem_append, List.mem_cons] at this
      simp only [List.mem_append, List.mem_singleton]
      rcases this with e | e | e
      · exact .inl (.inl e)
      · exact .inl (.inr e)
      · exact .inr (.inr e)
    · rw [List.mem_singleton.1 hx] at hc
      simp [(hm c).2 hc]
  · rw [List.pairwise_append]
    refine ⟨h.pw, by simp, fun a ha b hb e => ?_⟩
    rw [List.mem_singleton] at hb
    subst hb
    rcases h.up a (List.mem_append_left _ ha) with e' | ⟨p, hp, e'⟩
    · rw [e', hr] at e; cases e
    · rw [e] at e'
      exact hio (by rw [Option.some.inj e']; exact hp)
  · have := h.root
    simp only [List.mem_append, List.mem_cons] at this
    simp only [List.mem_append, List.mem_singleton]
    rcases this with e | e | e
    · exact .inl (.inl e)
    · exact .inl (.inr e)
    · exact .inr (.inr e)
theorem nodup_low : ∀ {n : Nat} {l : List Nat}, l.Nodup → (∀ x ∈ l, x < n) → l.length ≤ n
  | 0, l, _, hl => by
    cases l with
    | nil => simp
    | cons a l => have := hl a List.mem_cons_self; omega
  | n + 1, l, h, hl => by
    by_cases hm : n ∈ l
    · have h1 := nodup_low (n := n) (l := l.erase n) (h.erase n) fun x hx => by
        rw [h.mem_erase_iff] at hx
        have := hl x hx.2
        have := hx.1
        omega
      rw [List.length_erase_of_mem hm] at h1
      omega
    · have h1 := nodup_low (n := n) h fun x hx => by
        have := hl x hx
        have : x ≠ n := fun e => hm (by rw [← e]; exact hx)
        omega
      omega
theorem dfs_end {n : Nat} {par : Nat → Option Nat} {dep : Nat → Nat} {root : Nat} {out : List Nat} (hT : TreeOf n par dep) (hu : ∀ i, i < n → par i = none → i = root) (h : DfsInv n par root [] out) : Behind n par out.reverse := by
  have hn := h.nodup
  rw [List.append_nil] at hn
  refine ⟨List.pairwise_reverse.2 (hn.imp fun h => Ne.symm h), fun i => ?_, List.pairwise_reverse.2 h.pw⟩
  rw [List.mem_reverse]
  refine ⟨fun hi => h.low i (by simpa using hi), fun hi => ?_⟩
  have key : ∀ d i, dep i = d → i < n → i ∈ out := by
    intro d
    induction d using Nat.strongRecOn with
    | _ d ih =>
      intro i hd hi
      cases hp : par i with
      | none => rw [hu i hi hp]; simpa using h.root
      | some p =>
        have h1 := hT.lt i p hi hp
        have := h.kids p (ih _ (by omega) p rfl h1.1) i hp
        simpa using this
  exact key _ i rfl hi
theorem dfs_behind {n : Nat} {par : Nat → Option Nat} {dep : Nat → Nat} {root : Nat} (hT : TreeOf n par dep) (hr : par root = none) (hu : ∀ i, i < n → par i = none → i = root) (kids : Nat → List Nat) (hk : ∀ i, (kids i).Nodup ∧ ∀ c, c ∈ kids i ↔ par c = some i) :
    ∀ f s out, DfsInv n par root s out → n < f + out.length → Behind n par (dfsG kids f s out).reverse
  | 0, s, out, h, hf => by
    have := nodup_low (n := n) (List.nodup_append.1 h.nodup).1 fun x hx => h.low x (List.mem_append_left _ hx)
    omega
  | f + 1, [], out, h, _ => dfs_end hT hu h
  | f + 1, i :: s, out, h, hf => by
    rw [dfsG]
    refine dfs_behind hT hr hu kids hk f _ _ (h.step hT hr _ (List.pairwise_reverse.2 ((hk i).1.imp fun h => Ne.symm h)) fun c => ?_) (by simp; omega)
    rw [List.mem_reverse]; exact (hk i).2 c
theorem dfs_start {n : Nat} {par : Nat → Option Nat} {root : Nat} (hr : root < n) : DfsInv n par root [root] [] :=
  ⟨by simp, by simpa using hr, by simp, by simp, List.Pairwise.nil, by simp⟩
/-! ### what hangs together -/
/-- j is i, or below it. -/
inductive Desc (par : Nat → Option Nat) (i : Nat) : Nat → Prop
  | refl : Desc par i i
  | step {j p : Nat} : par j = some p → Desc par i p → Desc par i j
theorem Desc.trans {par : Nat → Option Nat} {i j k : Nat} (h : Desc par i j) (h' : Desc par j k) : Desc par i k := by
  induction h' with
  | refl => exact h
  | step hp _ ih => exact .step hp ih
theorem Desc.dep {n : Nat} {par : Nat → Option Nat} {dep : Nat → Nat} (hT : TreeOf n par dep) {i j : Nat} (h : Desc par i j) : dep i ≤ dep j := by
  induction h with
  | refl => exact Nat.le_refl _
  | step hp _ ih => have := (hT.lt _ _ (hT.low hp) hp).2; omega
theorem Desc.low {n : Nat} {par : Nat → Option Nat} {dep : Nat → Nat} (hT : TreeOf n par dep) {i j : Nat} (h : Desc par i j) (hi : i < n) : j < n := by
  cases h with
  | refl => exact hi
  | step hp _ => exact hT.low hp
theorem Desc.total {par : Nat → Option Nat} {a b j : Nat} (h : Desc par a j) (h' : Desc par b j) : Desc par a b ∨ Desc par b a := by
  induction h with
  | refl => exact .inr h'
  | step hp hd ih =>
    cases h' with
    | refl => exact .inl (.step hp hd)
    | step hp' hd' =>
      rw [hp] at hp'
      obtain rfl := Option.some.inj hp'
      exact ih hd'
theorem Desc.notUp {n : Nat} {par : Nat → Option Nat} {dep : Nat → Nat} (hT : TreeOf n par dep) {c i : Nat} (h : par c = some i) : ¬ Desc par c i := fun hd => by
  have := hd.dep hT
  have := (hT.lt _ _ (hT.low h) h).2
  omega
theorem Desc.one {n : Nat} {par : Nat → Option Nat} {dep : Nat → Nat} (hT : TreeOf n par dep) {c c' i j : Nat} (h : par c = some i) (h' : par c' = some i) (hd : Desc par c j) (hd' : Desc par c' j) : c = c' := by
  have key : ∀ {a b : Nat}, par a = some i → par b = some i → Desc par a b → a = b := fun {a b} ha hb hab => by
    cases hab with
    | refl => rfl
    | step hp hd =>
      rw [hb] at hp
      obtain rfl := Option.some.inj hp
      exact absurd hd (Desc.notUp hT ha)
  rcases hd.total hd' with e | e
  · exact key h h' e
  · exact (key h' h e).symm
/-- From j up to T all have v, T's parent has it not. -/
inductive Way (par : Nat → Option Nat) (sc : Nat → List Int) (v : Int) (T : Nat) : Nat → Prop
  | top : v ∈ sc T → (∀ p, par T = some p → ¬ v ∈ sc p) → Way par sc v T T
  | step {j p : Nat} : v ∈ sc j → par j = some p → Way par sc v T p → Way par sc v T j
theorem Way.has {par : Nat → Option Nat} {sc : Nat → List Int} {v : Int} {T j : Nat} (h : Way par sc v T j) : v ∈ sc j := by
  cases h with
  | top h _ => exact h
  | step h _ _ => exact h
theorem Way.ex {n : Nat} {par : Nat → Option Nat} {dep : Nat → Nat} {sc : Nat → List Int} (hT : TreeOf n par dep) {v : Int} : ∀ d j, dep j = d → j < n → v ∈ sc j → ∃ T, T < n ∧ Way par sc v T j := by
  intro d
  induction d using Nat.strongRecOn with
  | _ d ih =>
    intro j hd hj hv
    cases hp : par j with
    | none => exact ⟨j, hj, .top hv fun p e => by rw [hp] at e; cases e⟩
    | some p =>
      have h1 := hT.lt j p hj hp
      by_cases hvp : v ∈ sc p
      · obtain ⟨T, hTn, hW⟩ := ih _ (by omega) p rfl h1.1 hvp
        exact ⟨T, hTn, .step hv hp hW⟩
      · exact ⟨j, hj, .top hv fun q e => by rw [hp] at e; obtain rfl := Option.some.inj e; exact hvp⟩
theorem Way.over {par : Nat → Option Nat} {sc : Nat → List Int} {v : Int} {T c j : Nat} (hW : Way par sc v T j) (hd : Desc par c j) : (v ∈ sc c ∧ ∀ p, par c = some p → v ∈ sc p) ∨ Desc par c T := by
  induction hd with
  | refl =>
    cases hW with
    | top _ _ => exact .inr .refl
    | step h hp hw => exact .inl ⟨h, fun q e => by rw [hp] at e; obtain rfl := Option.some.inj e; exact hw.has⟩
  | step hp hd ih =>
    cases hW with
    | top _ _ => exact .inr (.step hp hd)
    | step h hp' hw =>
      rw [hp] at hp'
      obtain rfl := Option.some.inj hp'
      exact ih hw
section
variable {n : Nat} {par : Nat → Option Nat} {dep : Nat → Nat} {sc : Nat → List Int} {F : Nat → List (List Int)}
theorem dep_bound (n : Nat) (dep : Nat → Nat) : ∃ B, ∀ i, i < n → dep i ≤ B := by
  induction n with
  | zero => exact ⟨0, fun i h => by omega⟩
  | succ n ih =>
    obtain ⟨B, hB⟩ := ih
    refine ⟨B + dep n, fun i hi => ?_⟩
    by_cases e : i = n
    · subst e; omega
    · have := hB i (by omega); omega
end
end Go.Proofs.YtpimooejnpdlpaaGreatDoor.G

/- Plain laws of Up, Down, Reduce, Settled, and of the join of all. -/
set_option linter.unusedVariables false
set_option linter.unusedSimpArgs false
namespace Go.Proofs.YtpimooejnpdlpaaGreatDoor.G
open Go.RowKit Go.Proofs.YtpimooejnpdlpaaGreatDoorW.PrintWords Go.Proofs.YtpimooejnpdlpaaGreatDoorW.PrintLast Go.Proofs.YtpimooejnpdlpaaGreatDoorW.PrintMore Go.Proofs.YtpimooejnpdlpaaGreatDoor.PRefs

/-! ### rows of relations -/
def relAt (l : List S39) (k : Nat) : S39 := l.getD k ⟨[], []⟩
theorem relAt_get (l : List S39) (k : Nat) (h : k < l.length) : relAt l k = l[k] := by rw [relAt, List.getD_eq_getElem?_getD, List.getElem?_eq_getElem h]; rfl
theorem relAt_mem {l : List S39} {k : Nat} (h : k < l.length) : relAt l k ∈ l := by rw [relAt_get l k h]; exact List.getElem_mem h
theorem mem_relAt {l : List S39} {r : S39} (h : r ∈ l) : ∃ k, k < l.length ∧ relAt l k = r := by
  obtain ⟨k, hk, e⟩ := List.getElem_of_mem h
  exact ⟨k, hk, by rw [relAt_get l k hk, e]⟩
def sch (l : List S39) (k : Nat) : List Int := (relAt l k).f0
def fam (l : List S39) (k : Nat) : List (List Int) := (relAt l k).f1
theorem relAt_ext {l m : List S39} (hl : l.length = m.length) (hs : ∀ k, k < l.length → sch l k = sch m k) (hf : ∀ k, k < l.length → fam l k = fam m k) : l = m := by
  refine List.ext_getElem hl fun k h1 h2 => ?_
  have a := hs k h1
  have b := hf k h1
  rw [sch, sch, relAt_get l k h1, relAt_get m k h2] at a
  rw [fam, fam, relAt_get l k h1, relAt_get m k h2] at b
  generalize l[k] = x at a b ⊢
  generalize m[k] = y at a b ⊢
  cases x; cases y; simp at a b; rw [a, b]
def semiAt (l : List S39) (a b : Nat) : List S39 := l.set a ⟨sch l a, semiRows (sch l a) (fam l a) (sch l b) (fam l b)⟩
theorem relAt_set (l : List S39) (a k : Nat) (x : S39) : relAt (l.set a x) k = if a = k ∧ k < l.length then x else relAt l k := by
  unfold relAt
  rw [List.getD_eq_getElem?_getD, List.getD_eq_getElem?_getD, List.getElem?_set]
  by_cases h : a = k
  · subst h
    by_cases h2 : a < l.length
    · simp [h2]
    · simp [h2]
  · simp [h]
theorem semiAt_len (l : List S39) (a b : Nat) : (semiAt l a b).length = l.length := List.length_set
theorem semiAt_sch (l : List S39) (a b : Nat) : sch (semiAt l a b) = sch l := by
  funext k
  unfold sch semiAt
  rw [relAt_set]
  split
  · next h => rw [← h.1]; rfl
  · rfl
theorem semiAt_fam (l : List S39) (a b : Nat) (ha : a < l.length) : fam (semiAt l a b) = semiF (sch l) a b (fam l) := by
  funext k
  unfold fam semiAt
  rw [relAt_set]
  by_cases h : a = k
  · subst h; rw [if_pos ⟨rfl, ha⟩, semiF_eq]; rfl
  · rw [if_neg fun h' => h h'.1, semiF_ne _ _ _ fun e => h e.symm]
def upL (par : Nat → Option Nat) (ord : List Nat) (l : List S39) : List S39 := ord.foldl (fun l i => match par i with | some p => semiAt l p i | none => l) l
def downL (par : Nat → Option Nat) (ord : List Nat) (l : List S39) : List S39 := ord.foldl (fun l i => match par i with | some p => semiAt l i p | none => l) l
theorem upL_is {par : Nat → Option Nat} (l : List S39) (hp : ∀ i p, par i = some p → p < l.length) : ∀ ord : List Nat, (upL par ord l).length = l.length ∧ sch (upL par ord l) = sch l ∧ fam (upL par ord l) = upF (sch l) par ord (fam l) := by
  intro ord
  induction ord using snocN with
  | h0 => exact ⟨rfl, rfl, rfl⟩
  | h1 m i ih =>
    obtain ⟨h1, h2, h3⟩ := ih
    have e : upL par (m ++ [i]) l = match par i with | some p => semiAt (upL par m l) p i | none => upL par m l := by simp [upL, List.foldl_append]
    rw [e]
    cases h : par i with
    | none => rw [upF_snoc_none _ _ _ _ h]; exact ⟨h1, h2, h3⟩
    | some p =>
      rw [upF_snoc_some _ _ _ _ h]
      refine ⟨by rw [semiAt_len, h1], by rw [semiAt_sch, h2], ?_⟩
      rw [semiAt_fam _ _ _ (by rw [h1]; exact hp i p h), h2, h3]
theorem downL_is {par : Nat → Option Nat} (l : List S39) (hp : ∀ i p, par i = some p → i < l.length) : ∀ ord : List Nat, (downL par ord l).length = l.length ∧ sch (downL par ord l) = sch l ∧ fam (downL par ord l) = downF (sch l) par ord (fam l) := by
  intro ord
  induction ord using snocN with
  | h0 => exact ⟨rfl, rfl, rfl⟩
  | h1 m i ih =>
    obtain ⟨h1, h2, h3⟩ := ih
    have e : downL par (m ++ [i]) l = match par i with | some p => semiAt (downL par m l) i p | none => downL par m l := by simp [downL, List.foldl_append]
    rw [e]
    cases h : par i with
    | none => rw [downF_snoc_none _ _ _ _ h]; exact ⟨h1, h2, h3⟩
    | some p =>
      rw [downF_snoc_some _ _ _ _ h]
      refine ⟨by rw [semiAt_len, h1], by rw [semiAt_sch, h2], ?_⟩
      rw [semiAt_fam _ _ _ (by rw [h1]; exact hp i p h), h2, h3]
/-- Right relations, each. -/
def RightL (l : List S39) : Prop := ∀ k, k < l.length → RightP (sch l k) (fam l k)
/-! ### all joined -/
/-! ### Pl.Up, Down, Reduce, Settled -/
theorem rightP_sub {sc : List Int} {L M : List (List Int)} (h : RightP sc L) (hs : M.Sublist L) : RightP sc M := ⟨h.1, fun t ht => h.2.1 t (hs.subset ht), h.2.2.sublist hs⟩
section
variable {par : Nat → Option Nat} {dep : Nat → Nat} {l : List S39} {ord : List Nat}
def redL (par : Nat → Option Nat) (ord : List Nat) (l : List S39) : List S39 := downL par ord.reverse (upL par ord l)
theorem redL_is (hT : TreeOf l.length par dep) (ord : List Nat) : (redL par ord l).length = l.length ∧ sch (redL par ord l) = sch l ∧ fam (redL par ord l) = redF (sch l) par ord (fam l) := by
  obtain ⟨a1, a2, a3⟩ := upL_is l (fun i p h => (hT.lt i p (hT.low h) h).1) ord
  obtain ⟨b1, b2, b3⟩ := downL_is (upL par ord l) (fun i p h => by rw [a1]; exact hT.low h) ord.reverse
  refine ⟨by rw [redL, b1, a1], by rw [redL, b2, a2], ?_⟩
  rw [redL, b3, a2, a3]; rfl
theorem upL_is' (hT : TreeOf l.length par dep) (ord : List Nat) : (upL par ord l).length = l.length ∧ sch (upL par ord l) = sch l ∧ fam (upL par ord l) = upF (sch l) par ord (fam l) :=
  upL_is l (fun i p h => (hT.lt i p (hT.low h) h).1) ord
theorem downL_is' (hT : TreeOf l.length par dep) (ord : List Nat) : (downL par ord l).length = l.length ∧ sch (downL par ord l) = sch l ∧ fam (downL par ord l) = downF (sch l) par ord (fam l) :=
  downL_is l (fun i p h => hT.low h) ord
theorem red_right (hT : TreeOf l.length par dep) (h : RightL l) (ord : List Nat) : RightL (redL par ord l) := fun k hk => by
  obtain ⟨h1, h2, h3⟩ := redL_is hT ord
  rw [h2, h3]
  exact rightP_sub (h k (by rw [← h1]; exact hk)) (redF_sub _ _ _ _ k)
/-- Whether all agree with their parents. -/
def SettledP (par : Nat → Option Nat) (l : List S39) : Prop := ∀ i p, par i = some p → projRel (sch l i) (fam l i) (sch l p) = projRel (sch l p) (fam l p) (sch l i)
theorem semi_id {sc : List Int} {L : List (List Int)} {sd : List Int} {M : List (List Int)} : semiRows sc L sd M = L ↔ ∀ t ∈ L, ∃ u ∈ M, fits sc sd t u = true := by
  rw [semiRows, List.filter_eq_self]
  exact ⟨fun h t ht => List.any_eq_true.1 (h t ht), fun h t ht => List.any_eq_true.2 (h t ht)⟩
theorem settled_iff (hT : TreeOf l.length par dep) (h : RightL l) : SettledP par l ↔ Settl (sch l) par (fam l) := by
  refine forall_congr' fun i => forall_congr' fun p => forall_congr' fun hp => ?_
  rw [agree_iff (h i (hT.low hp)) (h p (hT.lt i p (hT.low hp) hp).1), semi_id, semi_id]
theorem red_is_settled (hT : TreeOf l.length par dep) (hB : Behind l.length par ord) (h : RightL l) : SettledP par (redL par ord l) := by
  obtain ⟨h1, h2, h3⟩ := redL_is hT ord
  rw [settled_iff (dep := dep) (by rw [h1]; exact hT) (red_right hT h ord), h2, h3]
  exact red_settled _ hT hB _
theorem red_again (hT : TreeOf l.length par dep) (hB : Behind l.length par ord) : redL par ord (redL par ord l) = redL par ord l := by
  obtain ⟨h1, h2, h3⟩ := redL_is hT ord
  obtain ⟨g1, g2, g3⟩ := redL_is (l := redL par ord l) (by rw [h1]; exact hT) ord
  refine relAt_ext g1 (fun k _ => by rw [g2]) fun k _ => ?_
  rw [g3, h2, h3, red_fix _ (red_settled _ hT hB _)]
/-- The order does not matter. -/
theorem upF_one (sc : Nat → List Int) {n : Nat} (hT : TreeOf n par dep) {ord' : List Nat} (hB : Behind n par ord) (hB' : Behind n par ord') {F : Nat → List (List Int)} (hu : ∀ k, k < n → Pl.Up (F k)) (k : Nat) (hk : k < n) : upF sc par ord F k = upF sc par ord' F k := by
  obtain ⟨B, hbd⟩ := dep_bound n dep
  have key : ∀ m k, B - dep k = m → k < n → upF sc par ord F k = upF sc par ord' F k := by
    intro m
    induction m using Nat.strongRecOn with
    | _ m ih =>
      intro k hm hk
      refine Pl.Up.ext ((hu k hk).sublist (upF_sub _ _ _ _ k)) ((hu k hk).sublist (upF_sub _ _ _ _ k)) fun t => ?_
      rw [up_is sc hT hB, up_is sc hT hB']
      refine and_congr Iff.rfl (forall_congr' fun c => forall_congr' fun hc => ?_)
      have h1 := hT.lt c k (hT.low hc) hc
      have h2 := hbd c (hT.low hc)
      rw [ih (B - dep c) (by omega) c rfl (hT.low hc)]
  exact key _ k rfl hk
theorem downF_one (sc : Nat → List Int) {n : Nat} (hT : TreeOf n par dep) {ord' : List Nat} (hB : Behind n par ord) (hB' : Behind n par ord') {F F' : Nat → List (List Int)} (hF : ∀ k, k < n → F k = F' k) (hu : ∀ k, k < n → Pl.Up (F k)) (k : Nat) (hk : k < n) : downF sc par ord.reverse F k = downF sc par ord'.reverse F' k := by
  have key : ∀ m k, dep k = m → k < n → downF sc par ord.reverse F k = downF sc par ord'.reverse F' k := by
    intro m
    induction m using Nat.strongRecOn with
    | _ m ih =>
      intro k hm hk
      refine Pl.Up.ext ((hu k hk).sublist (downF_sub _ _ _ _ k)) ((hu k hk).sublist (by rw [hF k hk]; exact downF_sub _ _ _ _ k)) fun t => ?_
      rw [down_is sc hT hB, down_is sc hT hB', hF k hk]
      refine and_congr Iff.rfl (forall_congr' fun p => forall_congr' fun hp => ?_)
      have h1 := hT.lt k p hk hp
      rw [ih _ (by omega) p rfl h1.1]
  exact key _ k rfl hk
theorem upL_one (hT : TreeOf l.length par dep) {ord' : List Nat} (hB : Behind l.length par ord) (hB' : Behind l.length par ord') (h : RightL l) : upL par ord l = upL par ord' l := by
  obtain ⟨h1, h2, h3⟩ := upL_is' hT ord
  obtain ⟨g1, g2, g3⟩ := upL_is' hT ord'
  refine relAt_ext (by rw [h1, g1]) (fun k _ => by rw [h2, g2]) fun k hk => ?_
  rw [h3, g3]
  exact upF_one _ hT hB hB' (fun k hk => (h k hk).2.2) k (by rw [← h1]; exact hk)
theorem downL_one (hT : TreeOf l.length par dep) {ord' : List Nat} (hB : Behind l.length par ord) (hB' : Behind l.length par ord') (h : RightL l) : downL par ord.reverse l = downL par ord'.reverse l := by
  obtain ⟨h1, h2, h3⟩ := downL_is' hT ord.reverse
  obtain ⟨g1, g2, g3⟩ := downL_is' hT ord'.reverse
  refine relAt_ext (by rw [h1, g1]) (fun k _ => by rw [h2, g2]) fun k hk => ?_
  rw [h3, g3]
  exact downF_one _ hT hB hB' (fun _ _ => rfl) (fun k hk => (h k hk).2.2) k (by rw [← h1]; exact hk)
end
end Go.Proofs.YtpimooejnpdlpaaGreatDoor.G
