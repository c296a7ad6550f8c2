/- Several texts of this claim in one. -/
import Derived.Test.YtpimooejnpdlpaaGreatDoorMN
import Derived.Test.YtpimooejnpdlpaaGreatDoorRefF
import Derived.Test.YtpimooejnpdlpaaGreatDoorMQ
import Derived.Test.YtpimooejnpdlpaaGreatDoorMP
import Derived.Test.YtpimooejnpdlpaaGreatDoorRels
/- What the document's After answers, of a tree whose parents lie ahead of their children: all bags, each behind its children. -/
set_option linter.unusedVariables false
set_option linter.unusedSimpArgs false
namespace Go.Proofs.YtpimooejnpdlpaaGreatDoor.G
open Go.RowKit Go.Proofs.YtpimooejnpdlpaaGreatDoorW.PrintWords Go.Proofs.YtpimooejnpdlpaaGreatDoorW.PrintLast Go.Proofs.YtpimooejnpdlpaaGreatDoorW.PrintMore Go.Proofs.YtpimooejnpdlpaaGreatDoor.PRefs
theorem desc_le {n : Nat} {par : Nat → Option Nat} (hT : TreeOf n par id) {i j : Nat} (h : Desc par i j) : i ≤ j := by
  induction h with
  | refl => exact Nat.le_refl _
  | step hp _ ih => exact Nat.le_trans ih (Nat.le_of_lt (hT.lt _ _ (hT.low hp) hp).2)
theorem desc_low {n : Nat} {par : Nat → Option Nat} (hT : TreeOf n par id) {i j : Nat} (h : Desc par i j) (hi : i < n) : j < n := by
  cases h with
  | refl => exact hi
  | step hp _ => exact hT.low hp
/-- Two that have one below them: one lies below the other. -/
theorem desc_two {par : Nat → Option Nat} {a b j : Nat} (ha : Desc par a j) (hb : Desc par b j) : Desc par a b ∨ Desc par b a := by
  induction ha with
  | refl => exact .inr hb
  | step hp ha ih =>
    cases hb with
    | refl => exact .inl (.step hp ha)
    | step hp' hb' =>
      rw [hp] at hp'
      obtain rfl := Option.some.inj hp'
      exact ih hb'
theorem desc_kids {n : Nat} {par : Nat → Option Nat} (hT : TreeOf n par id) {i a b j : Nat} (ha : par a = some i) (hb : par b = some i) (h : Desc par a j) (h' : Desc par b j) : a = b := by
  have key : ∀ {x y : Nat}, par x = some i → par y = some i → Desc par x y → x = y := fun {x y} hx hy h => by
    cases h with
    | refl => rfl
    | step hp h2 =>
      rw [hy] at hp
      obtain rfl := Option.some.inj hp
      have h1 := desc_le hT h2
      have h3 := (hT.lt _ _ (hT.low hx) hx).2
      simp only [id] at h3
      omega
  rcases desc_two h h' with h2 | h2
  · exact key ha hb h2
  · exact (key hb ha h2).symm
theorem desc_down {par : Nat → Option Nat} {i j : Nat} (h : Desc par i j) : j = i ∨ ∃ c, par c = some i ∧ Desc par c j := by
  induction h with
  | refl => exact .inl rfl
  | @step j p hp _ ih =>
    rcases ih with rfl | ⟨c, hc, hd⟩
    · exact .inr ⟨j, hp, .refl⟩
    · exact .inr ⟨c, hc, .step hp hd⟩
def belowN (P : List Int) : Nat → Nat → List Nat
  | 0, _ => []
  | f + 1, i => (kidsN P i).flatMap (belowN P f) ++ [i]
theorem belowN_mem {P : List Int} (hT : TreeOf P.length (parOf P) id) : ∀ f i j, i < P.length → P.length ≤ f + i → (j ∈ belowN P f i ↔ Desc (parOf P) i j)
  | 0, i, j, hi, hf => by omega
  | f + 1, i, j, hi, hf => by
    rw [belowN, List.mem_append, List.mem_flatMap, List.mem_singleton]
    constructor
    · rintro (⟨c, hc, hj⟩ | rfl)
      · have hp := ((kidsN_is P i).2 c).1 hc
        have h3 := (hT.lt _ _ (hT.low hp) hp).2
        simp only [id] at h3
        have hd := (belowN_mem hT f c j (hT.low hp) (by omega)).1 hj
        exact Desc.trans (.step hp .refl) hd
      · exact .refl
    · intro h
      rcases desc_down h with rfl | ⟨c, hp, hd⟩
      · exact .inr rfl
      · have h3 := (hT.lt _ _ (hT.low hp) hp).2
        simp only [id] at h3
        exact .inl ⟨c, ((kidsN_is P i).2 c).2 hp, (belowN_mem hT f c j (hT.low hp) (by omega)).2 hd⟩
theorem belowN_pw {P : List Int} (hT : TreeOf P.length (parOf P) id) : ∀ f i, i < P.length → P.length ≤ f + i → (belowN P f i).Pairwise fun a b => a ≠ b ∧ parOf P b ≠ some a
  | 0, i, hi, hf => by omega
  | f + 1, i, hi, hf => by
    have hc : ∀ c ∈ kidsN P i, parOf P c = some i ∧ c < P.length ∧ i < c := fun c hc => by
      have hp := ((kidsN_is P i).2 c).1 hc
      exact ⟨hp, hT.low hp, (hT.lt _ _ (hT.low hp) hp).2⟩
    rw [belowN, List.pairwise_append]
    refine ⟨?_, List.pairwise_singleton _ _, fun a ha b hb => ?_⟩
    · rw [List.pairwise_flatMap]
      refine ⟨fun c h => belowN_pw hT f c (hc c h).2.1 (by have := (hc c h).2.2; omega), ?_⟩
      refine List.Pairwise.imp_of_mem (fun {c c'} h1 h2 hne a ha b hb => ?_) (kidsN_is P i).1
      have hca := (belowN_mem hT f c a (hc c h1).2.1 (by have := (hc c h1).2.2; omega)).1 ha
      have hcb := (belowN_mem hT f c' b (hc c' h2).2.1 (by have := (hc c' h2).2.2; omega)).1 hb
      refine ⟨fun e => ?_, fun e => ?_⟩
      · subst e
        exact hne (desc_kids hT (hc c h1).1 (hc c' h2).1 hca hcb)
      · cases hcb with
        | refl =>
          rw [(hc c' h2).1] at e
          obtain rfl := Option.some.inj e
          have := desc_le hT hca
          have := (hc c h1).2.2
          omega
        | step hp hd =>
          rw [hp] at e
          obtain rfl := Option.some.inj e
          exact hne (desc_kids hT (hc c h1).1 (hc c' h2).1 hca hd)
    · obtain rfl := List.mem_singleton.1 hb
      obtain ⟨c, h, ha⟩ := List.mem_flatMap.1 ha
      have hca := desc_le hT ((belowN_mem hT f c a (hc c h).2.1 (by have := (hc c h).2.2; omega)).1 ha)
      have h2 := (hc c h).2.2
      refine ⟨by omega, fun e => ?_⟩
      have h3 := (hT.lt _ _ hi e).2
      simp only [id] at h3
      omega
def afterR (P : List Int) : List Nat := if P.length = 0 then [] else belowN P P.length 0
theorem afterR_behind {P : List Int} (hT : TreeOf P.length (parOf P) id) (hD : ∀ j, j < P.length → Desc (parOf P) 0 j) : Behind P.length (parOf P) (afterR P) := by
  unfold afterR
  split
  · next h => exact ⟨List.Pairwise.nil, by simp [h], List.Pairwise.nil⟩
  · next h =>
    have hp := belowN_pw hT P.length 0 (by omega) (by omega)
    refine ⟨hp.imp fun h => h.1, fun i => ?_, hp.imp fun h => h.2⟩
    rw [belowN_mem hT _ _ _ (by omega) (by omega)]
    exact ⟨fun h' => desc_low hT h' (by omega), hD i⟩
theorem ChildrenR_l0 (bags : List (List Int)) (P : List Int) (a : Nat) (hP : P.length ≤ 1000000) : ∀ n i k (x : List Int), i + n = P.length → n < k → x.length ≤ i → arboristref13_Children.l0 k (a : Int) x (i : Int) bags P = some (x ++ ofN ((List.range' i n).filter fun (k : Nat) => decide (rd P (k : Int) = (a : Int))))
  | n, i, 0, x, _, h, _ => by omega
  | 0, i, k + 1, x, h, _, _ => by
    unfold arboristref13_Children.l0
    rw [if_neg (by omega)]; simp [ofN]
  | n + 1, i, k + 1, x, h, hk, hx => by
    unfold arboristref13_Children.l0
    rw [if_pos (by omega), if_pos (by omega), List.range'_succ]
    by_cases hr : rd P (i : Int) = (a : Int)
    · rw [if_pos hr, if_pos (by omega), if_pos (by omega), w1 i (by omega), ChildrenR_l0 bags P a hP n (i + 1) k _ (by omega) (by omega) (by simp; omega), List.filter_cons_of_pos (by simpa using hr), List.append_assoc]
      rfl
    · rw [if_neg hr, w1 i (by omega), ChildrenR_l0 bags P a hP n (i + 1) k x (by omega) (by omega) (by omega), List.filter_cons_of_neg (by simpa using hr)]
theorem ChildrenR_f (bags : List (List Int)) (P : List Int) (a k : Nat) (hP : P.length ≤ 1000000) (hk : P.length < k) : arboristref13_Children.f k bags P (a : Int) = some (ofN (kidsN P a)) := by
  unfold arboristref13_Children.f
  have := ChildrenR_l0 bags P a hP P.length 0 k [] (by omega) hk (by simp)
  rw [show ((0 : Nat) : Int) = 0 from rfl] at this
  rw [this, kidsN, List.range_eq_range', List.nil_append]
theorem belowN_len {P : List Int} (hT : TreeOf P.length (parOf P) id) (f i : Nat) (hi : i < P.length) (hf : P.length ≤ f + i) : (belowN P f i).length ≤ P.length :=
  nodup_low ((belowN_pw hT f i hi hf).imp fun h => h.1) fun x hx => desc_low hT ((belowN_mem hT f i x hi hf).1 hx) hi
theorem BelowR_l0 {P : List Int} (hT : TreeOf P.length (parOf P) id) (hP : P.length ≤ 1000000) (bags : List (List Int)) (f i : Nat) (hi : i < P.length) (hf : P.length ≤ f + 1 + i) (hw : ∀ c, c ∈ kidsN P i → ∀ k, f * (P.length + 2) ≤ k → arboristref13_below.f k bags P (c : Int) = some (ofN (belowN P f c))) :
    ∀ m j k, j + m = (kidsN P i).length → f * (P.length + 2) + m + 1 ≤ k → arboristref13_below.l0 k (i : Int) (ofN (((kidsN P i).take j).flatMap (belowN P f))) (ofN (kidsN P i)) (j : Int) bags P = some (ofN ((kidsN P i).flatMap (belowN P f) ++ [i])) := by
  have hlen := belowN_len hT (f + 1) i hi hf
  rw [belowN, List.length_append] at hlen
  have hsub : ∀ j, (((kidsN P i).take j).flatMap (belowN P f)).length ≤ P.length := fun j => by
    have h1 : ((kidsN P i).flatMap (belowN P f)).length = (((kidsN P i).take j).flatMap (belowN P f)).length + (((kidsN P i).drop j).flatMap (belowN P f)).length := by
      rw [← List.length_append, ← List.flatMap_append, List.take_append_drop]
    omega
  have hkl : (kidsN P i).length ≤ P.length := nodup_low (kidsN_is P i).1 fun x hx => hT.low (((kidsN_is P i).2 x).1 hx)
  intro m
  induction m with
  | zero =>
    intro j k h hk
    obtain ⟨k, rfl⟩ : ∃ q, k = q + 1 := ⟨k - 1, by omega⟩
    unfold arboristref13_below.l0
    rw [if_neg (by rw [ofN_len]; omega), List.take_of_length_le (by omega), if_pos (by rw [ofN_len]; have := hlen; omega), ofN_append]
    rfl
  | succ m ih =>
    intro j k h hk
    obtain ⟨k, rfl⟩ : ∃ q, k = q + 1 := ⟨k - 1, by omega⟩
    have hj : j < (kidsN P i).length := by omega
    have h1 := hsub (j + 1)
    rw [take_snoc _ _ hj, List.flatMap_append, List.length_append] at h1
    simp only [List.flatMap_cons, List.flatMap_nil, List.append_nil] at h1
    unfold arboristref13_below.l0
    rw [if_pos (by rw [ofN_len]; omega), if_pos (by omega), ofN_rd _ _ hj, hw _ (List.getElem_mem hj) k (by omega), Option.bind_some, if_pos (by rw [ofN_len, ofN_len]; omega), w1 j (by omega), ← ofN_append]
    have e : ((kidsN P i).take j).flatMap (belowN P f) ++ belowN P f (kidsN P i)[j] = ((kidsN P i).take (j + 1)).flatMap (belowN P f) := by
      rw [take_snoc _ _ hj, List.flatMap_append]; simp
    rw [e, ih (j + 1) k (by omega) (by omega)]
theorem BelowR_f {P : List Int} (hT : TreeOf P.length (parOf P) id) (hP : P.length ≤ 1000000) (bags : List (List Int)) : ∀ f i, i < P.length → P.length ≤ f + i → ∀ k, f * (P.length + 2) ≤ k → arboristref13_below.f k bags P (i : Int) = some (ofN (belowN P f i)) := by
  intro f
  induction f with
  | zero => intro i hi hf; omega
  | succ f ih =>
    intro i hi hf k hk
    rw [Nat.succ_mul] at hk
    obtain ⟨k, rfl⟩ : ∃ q, k = q + 1 := ⟨k - 1, by omega⟩
    have hkl : (kidsN P i).length ≤ P.length := nodup_low (kidsN_is P i).1 fun x hx => hT.low (((kidsN_is P i).2 x).1 hx)
    unfold arboristref13_below.f
    rw [ChildrenR_f bags P i k hP (by omega), Option.bind_some]
    have := BelowR_l0 hT hP bags f i hi (by omega) (fun c hc k hk => by
      have hp := ((kidsN_is P i).2 c).1 hc
      have h3 := (hT.lt _ _ (hT.low hp) hp).2
      simp only [id] at h3
      exact ih c (hT.low hp) (by omega) k hk) (kidsN P i).length 0 k (by omega) (by omega)
    rw [List.take_zero, List.flatMap_nil] at this
    rw [show ([] : List Int) = ofN [] from rfl, show (0 : Int) = ((0 : Nat) : Int) from rfl, this, belowN]
theorem AfterR_f {P : List Int} (h : TreeOK P id 0) (hP : P.length ≤ 1000) (bags : List (List Int)) : arboristref13_After.f 2000000 bags P = some (ofN (afterR P)) := by
  unfold arboristref13_After.f afterR
  unfold arboristref13_After.l0
  by_cases h0 : P.length = 0
  · rw [if_neg (by omega), if_pos h0]; rfl
  · have h3 := (h.rooted (by omega)).2.2
    have hm : P.length * (P.length + 2) ≤ 1000 * 1002 := Nat.mul_le_mul hP (by omega)
    rw [show ((0 : Nat) : Int) = 0 from rfl] at h3
    rw [if_pos (by omega), if_pos (by omega), if_pos (by omega), if_neg h0]
    have := BelowR_f h.tree (by omega) bags P.length 0 (by omega) (by omega) 1999999 (by omega)
    rw [show ((0 : Nat) : Int) = 0 from rfl] at this
    rw [this, Option.bind_some]
end Go.Proofs.YtpimooejnpdlpaaGreatDoor.G

/- What the document's Semijoin, Agree compute. -/
set_option linter.unusedVariables false
set_option linter.unusedSimpArgs false
namespace Go.Proofs.YtpimooejnpdlpaaGreatDoor.G
open Go.RowKit Go.Proofs.YtpimooejnpdlpaaGreatDoorW.PrintWords Go.Proofs.YtpimooejnpdlpaaGreatDoorW.PrintLast Go.Proofs.YtpimooejnpdlpaaGreatDoorW.PrintMore Go.Proofs.YtpimooejnpdlpaaGreatDoor.PRefs
section
variable {w : World} {A A' B B' : Option Addr} {c c' d d' : Nat} {sa sb : List Int} {La Lb : List (List Int)}
end
end Go.Proofs.YtpimooejnpdlpaaGreatDoor.G

/- The document's After and Settled, called. -/
set_option linter.unusedVariables false
set_option linter.unusedSimpArgs false
namespace Go.Proofs.YtpimooejnpdlpaaGreatDoor.G
open Go.RowKit Go.Proofs.YtpimooejnpdlpaaGreatDoorW.PrintWords Go.Proofs.YtpimooejnpdlpaaGreatDoorW.PrintLast Go.Proofs.YtpimooejnpdlpaaGreatDoorW.PrintMore Go.Proofs.YtpimooejnpdlpaaGreatDoor.PRefs
def agreeAt (P : List Int) (l : List S39) (j : Nat) : Prop := ∀ p, parOf P j = some p → projRel (sch l j) (fam l j) (sch l p) = projRel (sch l p) (fam l p) (sch l j)
section
variable {w : World} {Ab : Option Addr} {cb : Nat} {B : List (List Int)} {Ap : Option Addr} {cp : Nat} {P : List Int}
theorem docafter_is (hB : Kd.C KL w Ab B.length B) (hcb : B.length ≤ cb) (hP : Kd.C KI w Ap P.length P) (hcp : P.length ≤ cp) (h : TreeOK P id 0) (hl : P.length ≤ 1000) :
    Calls Tryz.prog 25 #[.agg #[.slice Ab B.length cb, .slice Ap P.length cp]] w fun e w' => ∃ g c, e = .returned (.slice g (ofN (afterR P)).length c) ∧ Kd.R KI 3 w' w.heap.size (fun k => w.heap.size ≤ k) (.slice g (ofN (afterR P)).length c) (ofN (afterR P)) ∧ Below w.heap.size w w' := by
  refine (arboristref13_After.calls 2000000 Ab cb B Ap cp P (ofN (afterR P)) w hB hcb hP hcp (AfterR_f h hl B)).mono ?_
  rintro e w' ⟨v0, rfl, hR, hb⟩
  have k0 := Kd.R_mono (Kd.R_bound hR) (ok' := fun k => w.heap.size ≤ k) (fun k hk => hk.2.1)
  obtain ⟨A1, c1, rfl, _, _⟩ := Kd.R_reads k0
  exact ⟨A1, c1, rfl, k0, hb⟩
set_option maxHeartbeats 4000000 in
set_option maxRecDepth 100000 in
theorem docsettled_is {A : Option Addr} {c : Nat} {l : List S39} (hB : Kd.C KL w Ab B.length B) (hcb : B.length ≤ cb) (hP : Kd.C KI w Ap P.length P) (hcp : P.length ≤ cp) (hC : Kd.C k39 w A l.length l) (hc : l.length ≤ c) (h : TreeOK P id 0) (hb : l.length = B.length) (hp : l.length = P.length) (hl : SmL l) (b : Bool) (hs : settledB P l = b) :
    Calls Tryz.prog 11 #[.agg #[.slice Ab B.length cb, .slice Ap P.length cp], .slice A l.length c] w fun e w' => e = .returned (.bool b) ∧ Below w.heap.size w w' := by
  have HR := Aside0.mk (And.intro hP (And.intro hC (And.intro h.tree hl)))
  have HS := Aside0.mk hs
  have HP := Aside0.mk hp
  have h6 := hl.1
  have hne : ((l.length : Int) != (B.length : Int)) = false := by simp [hb]
  have hk0 := heap_alloc_new w (.cells #[.slice Ab B.length cb, .slice Ap P.length cp] 27)
  obtain ⟨W0, hW0⟩ : ∃ W0, w.alloc (.cells #[.slice Ab B.length cb, .slice Ap P.length cp] 27) = W0 := ⟨_, rfl⟩
  have hb0 : Below w.heap.size w W0 := by rw [← hW0]; exact below_alloc (Below.refl _ _) _
  rw [hW0] at hk0
  have q0 := blk2_c0 hk0
  have H0 := Aside0.mk (And.intro hb0 hk0)
  clear hB hP hC h hb hp hl hs hcb hcp hc hk0 hb0
  go_enter Tryz.func11, Tryz.ntmps11
  go_wp2
  clear hW0 q0
  go_loopw [5] (fun i W => ∃ k : Nat, k ≤ l.length ∧ i = .int .i64 k ∧ Aside0 (Below W0.heap.size W0 W) ∧ Aside0 (∀ j, j < k → agreeAt P l j)) (fun i _ => l.length - (intOf i).toNat)
  case atStart => exact ⟨0, Nat.zero_le _, rfl, ⟨Below.refl _ _⟩, ⟨fun j hj => by omega⟩⟩
  case round =>
    obtain ⟨k, hk, rfl, HB, HA⟩ := hrel
    have HBW := Aside0.mk (below_then H0.out.1 H0.out.1.size HB.out)
    have hbx := (HB.out.block _ (Array.getElem?_eq_some_iff.1 H0.out.2).1).trans H0.out.2
    have q1 := blk2_c1 hbx
    clear hbx
    by_cases hlt : k < l.length
    · have hkl : (k : Int) < (l.length : Int) := by omega
      have hkp : (k : Int) < (P.length : Int) := by have := HP.out; omega
      obtain ⟨adp, rfl, hp⟩ := at_int' HR.out.1 HBW.out k (by omega) (by have := HP.out; omega)
      simp only [Int.toNat_natCast] at hp
      obtain ⟨pv, hpv⟩ : ∃ p, rd P (k : Int) = p := ⟨_, rfl⟩
      rw [hpv] at hp
      have HPV := Aside0.mk hpv
      clear hpv
      by_cases h0 : 0 ≤ pv
      · have h0d : decide (0 ≤ pv) = true := decide_eq_true h0
        obtain ⟨p, rfl⟩ := Int.eq_ofNat_of_zero_le h0
        have hpar : parOf P k = some p := by
          have h := parOf_of (P := P) (i := k) (by have := HP.out; omega) (by rw [HPV.out]; exact h0)
          rw [HPV.out, Int.toNat_natCast] at h
          exact h
        have hpl : p < l.length := by have := (HR.out.2.2.1.lt k p (by have := HP.out; omega) hpar).1; have := HP.out; omega
        have hpli : (p : Int) < (l.length : Int) := by omega
        obtain ⟨ad, Ax, cx, Dx, dx, rfl, x0, x1, l0, r0, l1, r1⟩ := at_T39 (Kd.C_below HR.out.2.1 HBW.out) (k : Int) (by omega) (by omega)
        obtain ⟨ad2, Ay, cy, Dy, dy, e2, y0, y1, m0, s0, m1, s1⟩ := at_T39 (Kd.C_below HR.out.2.1 HBW.out) (p : Int) (by omega) (by omega)
        obtain rfl := Option.some.inj e2
        simp only [Int.toNat_natCast] at x0 x1 y0 y1
        rw [relAt_rd l k hlt] at x0 x1 l0 r0 l1 r1
        rw [relAt_rd l p hpl] at y0 y1 m0 s0 m1 s1
        have HX := Aside0.mk (And.intro (RelRd.mk r0 l0 r1 l1) (RelRd.mk s0 m0 s1 m1))
        have HSM := Aside0.mk (And.intro (HR.out.2.2.2.2 k hlt) (HR.out.2.2.2.2 p hpl))
        obtain ⟨b2, hb2⟩ : ∃ b2, decide (projRel (relAt l k).f0 (relAt l k).f1 (relAt l p).f0 = projRel (relAt l p).f0 (relAt l p).f1 (relAt l k).f0) = b2 := ⟨_, rfl⟩
        have HAG := Aside0.mk (show agreeAt P l k ↔ b2 = true from by
          rw [← hb2, decide_eq_true_iff]
          refine ⟨fun h => h p hpar, fun h q hq => ?_⟩
          rw [hpar] at hq
          obtain rfl := Option.some.inj hq
          exact h)
        have HB2 := Aside0.mk hb2
        have HSD := Aside0.mk (S4.step (S4.start x0 x1 y0 y1) (below_drew (Below.refl _ _)))
        clear l0 r0 l1 r1 m0 s0 m1 s1 hb2 e2
        have HX2 := Aside0.mk (show Sm (relAt l k).f0 (relAt l k).f1 ∧ Sm (relAt l p).f0 (relAt l p).f1 from HSM.out)
        generalize relAt l k = x at x0 x1 y0 y1 HX HSD HB2 HX2
        generalize relAt l p = y at x0 x1 y0 y1 HX HSD HB2 HX2
        go_wp2_with fail
        go_region_held3 (fun W => W.cell? (ad.add (k * 2)) = some (.slice Ax x.f0.length cx) ∧ W.cell? ⟨(ad.add (k * 2)).block, (ad.add (k * 2)).off + 1, none⟩ = some (.slice Dx x.f1.length dx) ∧ W.cell? (ad.add (p * 2)) = some (.slice Ay y.f0.length cy) ∧ W.cell? ⟨(ad.add (p * 2)).block, (ad.add (p * 2)).off + 1, none⟩ = some (.slice Dy y.f1.length dy) ∧ Below wr.heap.size wr W)
          (first | with_reducible exact HS2.out | with_reducible exact HSD.out)
          ((go_at_call 24; refine (refagree_any (HX.out.1.step (below_drew (Below.refl _ _))) HX2.out.1.rt.r.1.1 (by have := HX2.out.1.s; omega) (by have := HX2.out.1.l; omega) (HX.out.2.step (below_drew (Below.refl _ _))) HX2.out.2.rt.r.1.1 (by have := HX2.out.2.s; omega) (by have := HX2.out.2.l; omega) b2 HB2.out).mono ?_; rintro e w2 ⟨rfl, hb2⟩; have HS2 := Aside0.mk (S4.step HSD.out hb2); clear hb2))
        have HBF := Aside0.mk (below_then HB.out HB.out.size (S4.of HS2.out))
        clear HX HX2 HSD HB2 HSM
        cases b2 with
        | true =>
          go_wp2
          go_roundw
          case rel =>
            refine ⟨k + 1, by omega, by go_num, HBF, ⟨fun j hj => ?_⟩⟩
            by_cases e : j = k
            · subst e; exact HAG.out.2 rfl
            · exact HA.out j (by omega)
          case measure => simp [intOf]; omega
        | false =>
          go_wp2
          go_ret
          refine ⟨?_, below_then H0.out.1 H0.out.1.size HBF.out⟩
          rw [← HS.out, settledB, decide_eq_false]; rfl
          intro hall
          exact Bool.noConfusion (HAG.out.1 (hall k (by have := HP.out; omega)))
      · have h0d : decide (0 ≤ pv) = false := decide_eq_false h0
        have hpar : parOf P k = none := parOf_none (P := P) (i := k) (by have := HP.out; omega) (by rw [HPV.out]; exact h0)
        have HPN := Aside0.mk hpar
        clear hpar
        go_wp2
        go_roundw
        case rel =>
          refine ⟨k + 1, by omega, by go_num, HB, ⟨fun j hj => ?_⟩⟩
          by_cases e : j = k
          · subst e
            intro q hq
            rw [HPN.out] at hq; cases hq
          · exact HA.out j (by omega)
        case measure => simp [intOf]; omega
    · go_wp2
      go_ret
      refine ⟨?_, HBW.out⟩
      rw [← HS.out, settledB, decide_eq_true]; rfl
      intro j hj
      exact HA.out j (by have := HP.out; omega)
end
end Go.Proofs.YtpimooejnpdlpaaGreatDoor.G

/- A row of relations of the call's own, whose relations are only read: one is put in another one's place. What the document's Semijoin makes is new. -/
set_option linter.unusedVariables false
set_option linter.unusedSimpArgs false
namespace Go.Proofs.YtpimooejnpdlpaaGreatDoor.G
open Go.RowKit Go.Proofs.YtpimooejnpdlpaaGreatDoorW.PrintWords Go.Proofs.YtpimooejnpdlpaaGreatDoorW.PrintLast Go.Proofs.YtpimooejnpdlpaaGreatDoorW.PrintMore Go.Proofs.YtpimooejnpdlpaaGreatDoor.PRefs
theorem RelM.fk {W : World} {base : Nat} {x y : Value} {r : S39} (h : RelM W base (.agg #[x, y]) (r.f0, r.f1)) {g : Nat} (hg : g < base) : Kd.FK k39 W (fun k => k ≠ g) r [x, y] := by
  obtain ⟨s0, s1, e, k0, k1⟩ := h
  injection e with e
  injection e with e
  injection e with e1 e2
  injection e2 with e2 _
  subst e1 e2
  obtain ⟨A, c, rfl, hl, _⟩ := Kd.R_reads k0
  obtain ⟨A', c', rfl, hl', _⟩ := Kd.N_reads k1
  exact k39_mkF W _ r hl (Kd.F_mono (Kd.N_F (Kd.R_N k0)) (fun k hk => by have : base ≤ k := hk; omega)) hl' (Kd.F_mono (Kd.N_F k1) (fun k hk => by have : base ≤ k := hk; omega))
def OutAt (W : World) (base g cap : Nat) (l : List S39) : Prop := Kd.N k39 39 W base (fun _ => True) (.slice (some ⟨g, 0, none⟩) l.length cap) l
theorem OutAt.below {W W1 : World} {base g cap : Nat} {l : List S39} (h : OutAt W base g cap l) (hb : Below W.heap.size W W1) : OutAt W1 base g cap l := Kd.N_below h hb
theorem OutAt.put {W : World} {base g cap : Nat} {l : List S39} (h : OutAt W base g cap l) {k : Nat} (hk : k < l.length) {x y : Value} {r : S39} (hF : Kd.FK k39 W (fun k => k ≠ g) r [x, y]) :
    OutAt ((W.setCell ⟨g, k * 2, none⟩ x).setCell ⟨g, k * 2 + 1, none⟩ y) base g cap (l.set k r) := by
  unfold OutAt at *
  rw [List.length_set]
  obtain ⟨h0, rows, hl, hR, hf⟩ := h
  obtain ⟨c, hcl, hM, hcc, hfr⟩ := Kd.R_elem hR [] (k : Int) (by omega) (by omega)
  have hone : ∀ u ∈ [x, y], u.oneCell' = true := (Kd.FK_raw hF).2.2
  have hcl' : c.length = 2 := hcl
  obtain ⟨hR2, hg⟩ := Kd.R_seg (okp := fun _ => False) (x' := [x, y]) hR (k : Int) (by omega) (by omega) (c := c) (seg := [x, y]) (j := 0) hcl hcc (Nat.le_refl 2) (by
    have e : c.take 0 ++ [x, y] ++ c.drop (0 + [x, y].length) = [x, y] := by rw [List.take_zero, List.nil_append, List.drop_of_length_le (by simp; omega), List.append_nil]
    rw [e]
    exact ⟨rfl, rfl, hone⟩) (fun _ h => h.elim)
  have ew : W.setCells g ((k : Int).toNat * (Kd.raw k39.sz).sz + 0) [x, y] = (W.setCell ⟨g, k * 2, none⟩ x).setCell ⟨g, k * 2 + 1, none⟩ y := rfl
  rw [ew] at hR2 hg
  rw [Int.toNat_natCast] at hR2
  refine ⟨h0, rows.set k [x, y], by simp [hl], hR2, fun j z c' hz hc' => ?_⟩
  by_cases hjk : j = k
  · subst hjk
    rw [List.getElem?_set_self (by omega)] at hz hc'
    obtain rfl := Option.some.inj hz
    obtain rfl := Option.some.inj hc'
    exact Kd.FK_mono (Kd.FK_grown hF hg (fun k hk e => hk (Option.some.inj e))) (fun k hk => ⟨trivial, fun e => hk (Option.some.inj e)⟩)
  · rw [List.getElem?_set_ne (fun e => hjk e.symm)] at hz hc'
    exact Kd.FK_grown (hf j z c' hz hc') hg (fun k hk e => hk.2 (by rw [e]; rfl))
theorem OutAt.semi {W : World} {base g cap : Nat} {l : List S39} (h : OutAt W base g cap l) {a b : Nat} (ha : a < l.length) {x y : Value} (hM : RelM W (g + 1) (.agg #[x, y]) (sch l a, semiRows (sch l a) (fam l a) (sch l b) (fam l b))) :
    OutAt ((W.setCell ⟨g, a * 2, none⟩ x).setCell ⟨g, a * 2 + 1, none⟩ y) base g cap (semiAt l a b) :=
  h.put ha (RelM.fk (r := ⟨sch l a, semiRows (sch l a) (fam l a) (sch l b) (fam l b)⟩) hM (Nat.lt_succ_self g))
theorem OutAt.at_ {W : World} {base g cap : Nat} {l : List S39} (h : OutAt W base g cap l) {j : Nat} (hj : j < l.length) :
    ∃ A c D d, W.cell? ⟨g, j * 2, none⟩ = some (.slice A (sch l j).length c) ∧ W.cell? ⟨g, j * 2 + 1, none⟩ = some (.slice D (fam l j).length d) ∧ RelRd W A c (sch l j) D d (fam l j) ∧ W.frozen? ⟨g, j * 2, none⟩ = false ∧ W.frozen? ⟨g, j * 2 + 1, none⟩ = false := by
  obtain ⟨c, hcl, hF, hcc, hfr⟩ := Kd.N_elem h z39 (j : Int) (by omega) (by omega)
  simp only [Int.toNat_natCast] at hF hcc hfr
  obtain ⟨A0, c0, A1, c1, rfl, l0, g0, l1, g1⟩ := k39_openF hF
  exact ⟨A0, c0, A1, c1, hcc 0 _ rfl, hcc 1 _ rfl, ⟨Kd.F_now g0, l0, Kd.F_now g1, l1⟩, hfr 0, hfr 1⟩
theorem OutAt.lt {W : World} {base g cap : Nat} {l : List S39} (h : OutAt W base g cap l) : g < W.heap.size ∧ base ≤ g := ⟨Kd.N_lt h g rfl, Kd.N_base h g rfl⟩
section
variable {w : World} {A A' B B' : Option Addr} {c c' d d' : Nat} {sa sb : List Int} {La Lb : List (List Int)}
theorem docsemi_m (h : RelRd w A c sa A' c' La) (h' : RelRd w B d sb B' d' Lb) (hr : RightP sa La) (hr' : RightP sb Lb) (hsa : sa.length ≤ 1000) (hsb : sb.length ≤ 1000) (hla : La.length ≤ 4000) (hlb : Lb.length ≤ 4000) {S : List (List Int)} (hS : semiRows sa La sb Lb = S) :
    Calls Tryz.prog 26 #[.agg #[.slice A sa.length c, .slice A' La.length c'], .agg #[.slice B sb.length d, .slice B' Lb.length d']] w fun e w' => ∃ A2 c2 A3 c3, e = .returned (.agg #[.slice A2 sa.length c2, .slice A3 S.length c3]) ∧ RelM w' w.heap.size (.agg #[.slice A2 sa.length c2, .slice A3 S.length c3]) (sa, S) ∧ Below w.heap.size w w' :=
  refsemi_m h hr.1.1.nodup (by omega) (by omega) hr.2.1 h' hr'.2.1 hS
end
end Go.Proofs.YtpimooejnpdlpaaGreatDoor.G

/- The document's Up and Down (layer 16): what they answer. -/
set_option linter.unusedVariables false
set_option linter.unusedSimpArgs false
namespace Go.Proofs.YtpimooejnpdlpaaGreatDoor.G
open Go.RowKit Go.Proofs.YtpimooejnpdlpaaGreatDoorW.PrintWords Go.Proofs.YtpimooejnpdlpaaGreatDoorW.PrintLast Go.Proofs.YtpimooejnpdlpaaGreatDoorW.PrintMore Go.Proofs.YtpimooejnpdlpaaGreatDoor.PRefs
theorem heap_rel : Kd.Heap k39 := Kd.heap_iso _ (Kd.heap_pair (Kd.heap_slice _ heap_KI) (Kd.heap_slice _ (Kd.heap_slice _ heap_KI)))
theorem infoRel2 : (Tryz.prog.info? 39).map (fun i => (i.zero, i.size, i.bytes)) = some (some (.agg #[.slice none 0 0, .slice none 0 0]), (k39).sz, 48) := infoRel
theorem N_lit0r (w : World) (ok : Nat → Prop) (h : ok w.heap.size) : Kd.N k39 39 (w.alloc (.cells #[] 39)) w.heap.size ok (.slice (some ⟨w.heap.size, 0, none⟩) 0 0) [] :=
  Kd.R_N ⟨fun k hk => by have : k = w.heap.size := by simpa [Value.ownBlock] using hk.symm
                         rw [this]; exact h, [], World.ownsRow_made w #[] 0 (Nat.le_refl _) (Nat.zero_le _) (by simp), Reps.none _ _⟩
/-- Between two rounds: out is out of l by the first j of the order. -/
structure OutRel (w W0 W : World) (base : Nat) (A : Option Addr) (n c : Nat) (m : List S39) : Prop where
  out : Kd.N k39 39 W base (fun _ => True) (.slice A n c) m
  bel : Below w.heap.size w W
  siz : W0.heap.size ≤ W.heap.size
  gro : ∀ k, k < W0.heap.size → some k ≠ (Value.slice A n c).ownBlock → W.heap[k]? = W0.heap[k]?
theorem OutRel.below {w W0 W W1 : World} {base : Nat} {A : Option Addr} {n c : Nat} {m : List S39} (h : OutRel w W0 W base A n c m) (hb : Below W.heap.size W W1) : OutRel w W0 W1 base A n c m :=
  ⟨Kd.N_below h.out hb, below_then h.bel h.bel.size hb, Nat.le_trans h.siz hb.size, fun k hk hne => (hb.block k (Nat.lt_of_lt_of_le hk h.siz)).trans (h.gro k hk hne)⟩
set_option maxHeartbeats 4000000 in
set_option maxRecDepth 100000 in
theorem docup_any {Ab : Option Addr} {cb : Nat} {B : List (List Int)} {Ap : Option Addr} {cp : Nat} {P : List Int} {A : Option Addr} {c : Nat} {l : List S39} {w : World} (hB : Kd.C KL w Ab B.length B) (hcb : B.length ≤ cb) (hP : Kd.C KI w Ap P.length P) (hcp : P.length ≤ cp) (hC : Kd.C k39 w A l.length l) (hT : TreeOK P id 0) (hD : ∀ j, j < P.length → Desc (parOf P) 0 j) (hp : l.length = P.length) (hl : SmL l) :
    Calls Tryz.prog 12 #[.agg #[.slice Ab B.length cb, .slice Ap P.length cp], .slice A l.length c] w fun e w' => ∃ A' c', e = .returned (.slice A' l.length c') ∧ l.length ≤ c' ∧ Kd.C k39 w' A' l.length (upL (parOf P) (afterR P) l) ∧ Below w.heap.size w w' := by
  have hl6 := hl.1
  have hbe := below_alloc (Below.refl w.heap.size w) (.cells #[.slice Ab B.length cb, .slice Ap P.length cp] 27)
  have hk := heap_alloc_new w (.cells #[.slice Ab B.length cb, .slice Ap P.length cp] 27)
  have q0 := blk2_c0 hk
  have q1 := blk2_c1 hk
  have hsz : (w.alloc (.cells #[.slice Ab B.length cb, .slice Ap P.length cp] 27)).heap.size = w.heap.size + 1 := by simp
  have HB := Aside0.mk (And.intro hbe (And.intro hk hsz))
  have HIN := Aside0.mk (And.intro hB (And.intro hP hC))
  have HT := Aside0.mk hT
  have HCB := Aside0.mk (And.intro hcb hcp)
  have HD := Aside0.mk hD
  have HP := Aside0.mk hp
  have HL := Aside0.mk hl
  have hli := N_lit0r (w.alloc (.cells #[.slice Ab B.length cb, .slice Ap P.length cp] 27)) (fun _ => True) trivial
  have hlb := below_alloc (Below.refl (w.alloc (.cells #[.slice Ab B.length cb, .slice Ap P.length cp] 27)).heap.size (w.alloc (.cells #[.slice Ab B.length cb, .slice Ap P.length cp] 27))) (.cells #[] 39)
  rw [hsz] at hli hlb
  have HLI := Aside0.mk (And.intro hli hlb)
  obtain ⟨O, hO⟩ : ∃ O, ofN (afterR P) = O := ⟨_, rfl⟩
  have HOO := Aside0.mk hO
  have hbh := afterR_behind hT.tree hD
  have HBH := Aside0.mk hbh
  have hOl : O.length = (afterR P).length := by rw [← hO, ofN_len]
  have HOL := Aside0.mk hOl
  have HOr := Aside0.mk (show ∀ k (h : k < (afterR P).length), rd O (k : Int) = ((afterR P)[k] : Int) from fun k h => by rw [← hO]; exact ofN_rd _ _ h)
  have hO6 : O.length ≤ 6 := by have := behind_len hbh; omega
  have HTT := Aside0.mk (show TreeOf l.length (parOf P) id from by rw [hp]; exact hT.tree)
  clear hB hP hC hT hD hp hl hbe hk hsz hcb hcp hli hlb hO hbh hOl
  go_enter Tryz.func12, Tryz.ntmps12
  go_upto_region 3 with (first
    | (have hgd := HO1; clear hgd; go_at_call 25; refine (docafter_is (Kd.C_below HIN.out.1 HO1.out.2.1) HCB.out.1 (Kd.C_below HIN.out.2.1 HO1.out.2.1) HCB.out.2 HT.out (by have := HP.out; omega)).mono ?_; rintro e w3 ⟨Ao, co, rfl, hO3, hb3⟩; rw [HOO.out] at hO3 ⊢; have HO3 := Aside0.mk (And.intro hO3 hb3); clear hO3 hb3)
    | (at_builtin; refine Kd.N_append_rows k39 (w0 := w.alloc (.cells #[.slice Ab B.length cb, .slice Ap P.length cp] 27)) (w.heap.size + 1) rfl (.tmp 9) (.tmp 10) 28 39 (.agg #[.slice none 0 0, .slice none 0 0]) 48 rfl Tryz.underlying28 infoRel2 rfl (by decide) (by decide) (.slice (some ⟨w.heap.size + 1, 0, none⟩) 0 0) [] l A _ _ (fun _ => True) (fun k => k < w.heap.size) rfl rfl HLI.out.1 (Kd.F_below (Kd.C_F heap_rel HIN.out.2.2) (below_alloc HB.out.1 _)) (fun k hk => ⟨trivial, fun e => by have h2 : k < w.heap.size := hk; have e2 : k = w.heap.size + 1 := Option.some.inj e; omega⟩) (fun _ _ => trivial) HLI.out.2 (by simp) (by simp only [List.length_nil]; omega) ?_; intro v2 w2 hN hB hg hat; rw [List.nil_append] at hN; obtain ⟨A2, c2, rfl⟩ := Kd.N_slice hN; have hk2 := (hB.block w.heap.size (Nat.lt_succ_self _)).trans HB.out.2.1; have q0' := blk2_c0 hk2; have q1' := blk2_c1 hk2; have HO1 := Aside0.mk (And.intro hN (And.intro (HB.out.1.trans (hB.mono (Nat.le_succ _))) (And.intro hk2 hB.size))); clear hN hB hg hat hk2))
  clear q0 q1 q0' q1'
  have HR : Aside0 (OutRel w w3 w3 (w.heap.size + 1) A2 l.length c2 (upL (parOf P) ((afterR P).take 0) l)) := ⟨Kd.N_below HO1.out.1 HO3.out.2, below_then HO1.out.2.1 HO1.out.2.1.size HO3.out.2, Nat.le_refl _, fun _ _ _ => rfl⟩
  go_wp2_with fail
  go_loopw [7] (fun i W => ∃ (j : Nat), j ≤ O.length ∧ i = .int .i64 j ∧ Aside0 (OutRel w w3 W (w.heap.size + 1) A2 l.length c2 (upL (parOf P) ((afterR P).take j) l))) (fun i _ => O.length - (intOf i).toNat)
  case atStart => exact ⟨0, Nat.zero_le _, rfl, HR⟩
  case round =>
    clear HR
    obtain ⟨j, hj, rfl, HR⟩ := hrel
    by_cases hlt : j < O.length
    · have hjl : (j : Int) < (O.length : Int) := by omega
      have hja : j < (afterR P).length := by have := HOL.out; omega
      obtain ⟨i, hi⟩ : ∃ i, i = (afterR P)[j] := ⟨_, rfl⟩
      have hiP : i < P.length := (HBH.out.mem i).1 (by rw [hi]; exact List.getElem_mem hja)
      have hil : i < l.length := by have := HP.out; omega
      have hOw := Kd.R_step HO3.out.1 (fun k hk hlt => HR.out.gro k hlt (fun e => by have h2 := Kd.N_lt HO1.out.1 k e.symm; have h3 : w2.heap.size ≤ k := hk; omega))
      obtain ⟨A', c', e', _, hC⟩ := Kd.R_reads hOw
      injection e' with e1 e2 e3
      subst e1 e3
      obtain ⟨ad, rfl, hx⟩ := Kd.at_int hC (j : Int) (by omega) (by omega)
      simp only [Int.toNat_natCast] at hx
      rw [HOr.out j hja, ← hi] at hx
      obtain ⟨ad2, rfl, hy⟩ := Kd.at_int (Kd.C_below HIN.out.2.1 HR.out.bel) (i : Int) (by omega) (by omega)
      simp only [Int.toNat_natCast] at hy
      have hws : w.heap.size < w2.heap.size := by have h1 := HO1.out.2.2.2; have h2 := HB.out.2.2; omega
      have hbx := (HR.out.gro w.heap.size (Nat.lt_of_lt_of_le hws HO3.out.2.size) (fun e => by have h2 := Kd.N_base HO1.out.1 _ e.symm; omega)).trans ((HO3.out.2.block _ hws).trans HO1.out.2.2.1)
      have q1 := blk2_c1 hbx
      have hiPl : (i : Int) < (P.length : Int) := by omega
      have HI := Aside0.mk hi
      obtain ⟨pv, hpv⟩ : ∃ p, p = rd P (i : Int) := ⟨_, rfl⟩
      rw [← hpv] at hy
      have HPV := Aside0.mk hpv
      clear hOw hC hbx hi hpv
      by_cases hp0 : 0 ≤ pv
      · have hpb : decide (0 ≤ pv) = true := decide_eq_true hp0
        go_wp2_with fail
        go_quiet (fail)
        have hbd := pw_below_drewN (Below.refl wr.heap.size wr) nq
        generalize wr.drewN nq = wd at hbd ⊢
        replace hx := (hbd.cell (World.block_lt_of_cell? wr _ hx)).trans hx
        replace HR := Aside0.mk (HR.out.below hbd)
        clear hy q1 hbd
        obtain ⟨p, rfl⟩ := Int.eq_ofNat_of_zero_le hp0
        have hpar : parOf P i = some p := by
          have h := parOf_of hiP (by rw [← HPV.out]; exact hp0)
          rw [← HPV.out, Int.toNat_natCast] at h
          exact h
        have hpl : p < l.length := (HTT.out.lt i p hil hpar).1
        obtain ⟨hml, hms, hmf⟩ := upL_is' HTT.out ((afterR P).take j)
        have hsm := HL.out.up HTT.out ((afterR P).take j)
        have HNX := Aside0.mk (show upL (parOf P) ((afterR P).take (j + 1)) l = semiAt (upL (parOf P) ((afterR P).take j) l) p i from by rw [take_snoc _ _ hja, upL_some (i := (afterR P)[j]) (p := p) (by rw [← HI.out]; exact hpar), ← HI.out])
        obtain ⟨m, hm⟩ : ∃ m, upL (parOf P) ((afterR P).take j) l = m := ⟨_, rfl⟩
        rw [hm] at hml hms hmf hsm HNX HR
        obtain ⟨g, cap, eN, hg1, hg2, _⟩ := Kd.N_form HR.out.out (by rw [hml]; omega)
        obtain ⟨e1, _, e3⟩ := Value.slice.inj eN
        subst e1 e3
        have hout : OutAt wd (w.heap.size + 1) g c2 m := by
          have h := HR.out.out
          unfold OutAt
          rw [hml]
          exact h
        obtain ⟨Ax, cx, Dx, dx, x0, x1, hrx, _, _⟩ := hout.at_ (j := p) (by omega)
        obtain ⟨Ay, cy, Dy, dy, y0, y1, hry, _, _⟩ := hout.at_ (j := i) (by omega)
        have hXt := hsm.2 p (by omega)
        have hYt := hsm.2 i (by omega)
        have hpli : (p : Int) < (l.length : Int) := by omega
        have hili : (i : Int) < (l.length : Int) := by omega
        have hsX := hXt.s
        have hsY := hYt.s
        have hlX := hXt.l
        have hlY := hYt.l
        have hsemi := fun (W' : World) (u v : Value) (h : OutAt W' (w.heap.size + 1) g c2 m) => h.semi (x := u) (y := v) (a := p) (b := i) (by omega)
        have HSM := Aside0.mk hsemi
        have HOU := Aside0.mk (And.intro hout (And.intro hml (And.intro hg1 hg2)))
        have HX := Aside0.mk (And.intro hrx (And.intro hry (And.intro hXt.rt.r hYt.rt.r)))
        have hpm : p < m.length := by omega
        have HPM := Aside0.mk hpm
        have him : i < m.length := by omega
        have hpmi : (p : Int) < (m.length : Int) := by omega
        have himi : (i : Int) < (m.length : Int) := by omega
        clear hsm hms hmf hout hrx hry hXt hYt hsemi hml eN hm hg1 hg2
        go_wp2_with fail
        have hdr : Below wd.heap.size wd wd.drew := below_drew (Below.refl _ _)
        have c0 := (hdr.cell (World.block_lt_of_cell? wd _ hx)).trans hx
        have c1 := (hdr.cell (World.block_lt_of_cell? wd _ x0)).trans x0
        have c2' := (hdr.cell (World.block_lt_of_cell? wd _ x1)).trans x1
        have c3 := (hdr.cell (World.block_lt_of_cell? wd _ y0)).trans y0
        have c4 := (hdr.cell (World.block_lt_of_cell? wd _ y1)).trans y1
        clear hx x0 x1 y0 y1
        obtain ⟨R, hR⟩ : ∃ R, semiRows (sch m p) (fam m p) (sch m i) (fam m i) = R := ⟨_, rfl⟩
        rw [hR] at HSM
        have HRR := Aside0.mk hR
        clear hR
        generalize sch m p = SX at *
        generalize fam m p = LX at *
        generalize sch m i = SY at *
        generalize fam m i = LY at *
        refine start_ (n := 16) (S := fun w' => w'.cell? (Addr.add ad j) = some (.int .i64 (i : Int)) ∧ w'.cell? ⟨g, p * 2, none⟩ = some (.slice Ax SX.length cx) ∧ w'.cell? ⟨g, p * 2 + 1, none⟩ = some (.slice Dx LX.length dx) ∧ w'.cell? ⟨g, i * 2, none⟩ = some (.slice Ay SY.length cy) ∧ w'.cell? ⟨g, i * 2 + 1, none⟩ = some (.slice Dy LY.length dy) ∧ Below wd.heap.size wd w') (ds := [15]) #[false, false, false, false, false, false, false, false, false, false, false, false, false, false, false, false] (by kernel_rfl) rfl rfl ⟨c0, c1, c2', c3, c4, hdr⟩ (fun hHeld => ?_)
        generalize wd.drew = w17 at *
        refine pure_ (i := 0) (N := some 30) (v := ?_) (a' := ?_) #[true, false, false, false, false, false, false, false, false, false, false, false, false, false, false, false] rfl rfl (by kernel_rfl) (fun _ _ _ h => h) (Or.inl ⟨by rfl, ?_⟩) ?_ ?_
        rotate_left
        · intro w'
          go_simp
          with_reducible rfl
        rotate_left
        · simp only [Act.put, List.setIfInBounds_toArray, List.set_cons_zero, List.set_cons_succ, i64_w, i32_w]
          rfl
        refine pure_ (i := 1) (N := some 31) (v := ?_) (a' := ?_) #[true, true, false, false, false, false, false, false, false, false, false, false, false, false, false, false] rfl rfl (by kernel_rfl) (fun _ _ _ h => h) (Or.inl ⟨by rfl, ?_⟩) ?_ ?_
        rotate_left
        · intro w'
          go_simp
          with_reducible rfl
        rotate_left
        · simp only [Act.put, List.setIfInBounds_toArray, List.set_cons_zero, List.set_cons_succ, i64_w, i32_w]
          rfl
        refine pure_ (i := 2) (N := some 32) (v := ?_) (a' := ?_) #[true, true, true, false, false, false, false, false, false, false, false, false, false, false, false, false] rfl rfl (by kernel_rfl) (fun _ _ _ h => h) (Or.inl ⟨by rfl, ?_⟩) ?_ ?_
        rotate_left
        · intro w'
          go_simp
          with_reducible rfl
        rotate_left
        · simp only [Act.put, List.setIfInBounds_toArray, List.set_cons_zero, List.set_cons_succ, i64_w, i32_w]
          rfl
        refine pure_ (i := 3) (N := some 33) (v := ?_) (a' := ?_) #[true, true, true, true, false, false, false, false, false, false, false, false, false, false, false, false] rfl rfl (by kernel_rfl) (fun _ _ _ h => h) (Or.inl ⟨by rfl, ?_⟩) ?_ ?_
        rotate_left
        · intro w'
          go_simp
          with_reducible rfl
        rotate_left
        · simp only [Act.put, List.setIfInBounds_toArray, List.set_cons_zero, List.set_cons_succ, i64_w, i32_w]
          rfl
        refine pure_ (i := 4) (N := some 34) (v := ?_) (a' := ?_) #[true, true, true, true, true, false, false, false, false, false, false, false, false, false, false, false] rfl rfl (by kernel_rfl) (fun _ _ _ h => h) (Or.inl ⟨by rfl, ?_⟩) ?_ ?_
        rotate_left
        · intro w'
          go_simp
          with_reducible rfl
        rotate_left
        · simp only [Act.put, List.setIfInBounds_toArray, List.set_cons_zero, List.set_cons_succ, i64_w, i32_w]
          rfl
        refine take_ (i := 5) (N := some 35) (v := ?_) (a' := ?_) #[true, true, true, true, true, true, false, false, false, false, false, false, false, false, false, false] rfl rfl (by kernel_rfl) (fun _ _ _ h => h) (Or.inl ⟨by rfl, ?_⟩) hHeld ?_ ?_
        rotate_left
        · rintro w' ⟨s0, s1, s2, s3, s4, _⟩
          go_simp
          with_reducible rfl
        rotate_left
        · simp only [Act.put, List.setIfInBounds_toArray, List.set_cons_zero, List.set_cons_succ, i64_w, i32_w]
          rfl
        refine pure_ (i := 6) (N := some 36) (v := ?_) (a' := ?_) #[true, true, true, true, true, true, true, false, false, false, false, false, false, false, false, false] rfl rfl (by kernel_rfl) (fun _ _ _ h => h) (Or.inl ⟨by rfl, ?_⟩) ?_ ?_
        rotate_left
        · intro w'
          go_simp
          with_reducible rfl
        rotate_left
        · simp only [Act.put, List.setIfInBounds_toArray, List.set_cons_zero, List.set_cons_succ, i64_w, i32_w]
          rfl
        refine pure_ (i := 7) (N := some 37) (v := ?_) (a' := ?_) #[true, true, true, true, true, true, true, true, false, false, false, false, false, false, false, false] rfl rfl (by kernel_rfl) (fun _ _ _ h => h) (Or.inl ⟨by rfl, ?_⟩) ?_ ?_
        rotate_left
        · intro w'
          go_simp
          with_reducible rfl
        rotate_left
        · simp only [Act.put, List.setIfInBounds_toArray, List.set_cons_zero, List.set_cons_succ, i64_w, i32_w]
          rfl
        refine pure_ (i := 8) (N := some 38) (v := ?_) (a' := ?_) #[true, true, true, true, true, true, true, true, true, false, false, false, false, false, false, false] rfl rfl (by kernel_rfl) (fun _ _ _ h => h) (Or.inl ⟨by rfl, ?_⟩) ?_ ?_
        rotate_left
        · intro w'
          go_simp
          with_reducible rfl
        rotate_left
        · simp only [Act.put, List.setIfInBounds_toArray, List.set_cons_zero, List.set_cons_succ, i64_w, i32_w]
          rfl
        refine pure_ (i := 9) (N := some 39) (v := ?_) (a' := ?_) #[true, true, true, true, true, true, true, true, true, true, false, false, false, false, false, false] rfl rfl (by kernel_rfl) (fun _ _ _ h => h) (Or.inl ⟨by rfl, ?_⟩) ?_ ?_
        rotate_left
        · intro w'
          go_simp
          with_reducible rfl
        rotate_left
        · simp only [Act.put, List.setIfInBounds_toArray, List.set_cons_zero, List.set_cons_succ, i64_w, i32_w]
          rfl
        refine take_ (i := 10) (N := some 40) (v := ?_) (a' := ?_) #[true, true, true, true, true, true, true, true, true, true, true, false, false, false, false, false] rfl rfl (by kernel_rfl) (fun _ _ _ h => h) (Or.inl ⟨by rfl, ?_⟩) hHeld ?_ ?_
        rotate_left
        · rintro w' ⟨s0, s1, s2, s3, s4, _⟩
          go_simp
          with_reducible rfl
        rotate_left
        · simp only [Act.put, List.setIfInBounds_toArray, List.set_cons_zero, List.set_cons_succ, i64_w, i32_w]
          rfl
        refine pure_ (i := 11) (N := some 41) (v := ?_) (a' := ?_) #[true, true, true, true, true, true, true, true, true, true, true, true, false, false, false, false] rfl rfl (by kernel_rfl) (fun _ _ _ h => h) (Or.inl ⟨by rfl, ?_⟩) ?_ ?_
        rotate_left
        · intro w'
          go_simp
          with_reducible rfl
        rotate_left
        · simp only [Act.put, List.setIfInBounds_toArray, List.set_cons_zero, List.set_cons_succ, i64_w, i32_w]
          rfl
        refine take_ (i := 12) (N := some 42) (v := ?_) (a' := ?_) #[true, true, true, true, true, true, true, true, true, true, true, true, true, false, false, false] rfl rfl (by kernel_rfl) (fun _ _ _ h => h) (Or.inl ⟨by rfl, ?_⟩) hHeld ?_ ?_
        rotate_left
        · rintro w' ⟨s0, s1, s2, s3, s4, _⟩
          go_simp
          with_reducible rfl
        rotate_left
        · simp only [Act.put, List.setIfInBounds_toArray, List.set_cons_zero, List.set_cons_succ, i64_w, i32_w]
          rfl
        refine one_ (i := 13) (N := some 43) #[true, true, true, true, true, true, true, true, true, true, true, true, true, true, false, false] rfl rfl (by kernel_rfl) (by decide) (fun K hK => ?_)
        refine goes_ Tryz.func26 (by kernel_rfl) rfl #[.agg #[.slice Ax SX.length cx, .slice Dx LX.length dx], .agg #[.slice Ay SY.length cy, .slice Dy LY.length dy]] (by rfl) rfl rfl (by (try simp only [List.map_toArray, List.map_cons, List.map_nil]); first | done | rfl) ?_
        refine (docsemi_m (HX.out.1.step hdr) (HX.out.2.1.step hdr) HX.out.2.2.1 HX.out.2.2.2 (by omega) (by omega) (by omega) (by omega) HRR.out).mono ?_
        rintro e w' ⟨A2, c2'', A3, c3', rfl, hM, hb⟩
        refine ⟨_, rfl, ?_⟩
        have hbW := below_then hdr hdr.size hb
        have hst := fun {p : Addr} {v : Value} (h : w17.cell? p = some v) => (hb.cell (World.block_lt_of_cell? w17 _ h)).trans h
        have HRW := Aside0.mk (And.intro (HOU.out.1.below hbW) hbW)
        have HMM := Aside0.mk (And.intro hM hdr.size)
        refine hK.out _ _ ⟨hst c0, hst c1, hst c2', hst c3, hst c4, hbW⟩ (fun hHeld => ?_)
        clear hK K
        refine norm_ (a' := ?_) ?_ ?_
        rotate_left
        · show Act.put _ (some 43) _ = _
          simp only [Act.put, List.setIfInBounds_toArray, List.set_cons_zero, List.set_cons_succ, i64_w, i32_w]
          rfl
        refine pure_ (i := 14) (N := some 44) (v := ?_) (a' := ?_) #[true, true, true, true, true, true, true, true, true, true, true, true, true, true, true, false] rfl rfl (by kernel_rfl) (fun _ _ _ h => h) (Or.inl ⟨by rfl, ?_⟩) ?_ ?_
        rotate_left
        · intro w'
          go_simp
          with_reducible rfl
        rotate_left
        · simp only [Act.put, List.setIfInBounds_toArray, List.set_cons_zero, List.set_cons_succ, i64_w, i32_w]
          rfl
        refine last_ (i := 15) (N := none) #[true, true, true, true, true, true, true, true, true, true, true, true, true, true, true, true] rfl rfl (by kernel_rfl) (by decide) (fun K hK => ?_)
        obtain ⟨_, _, _, _, p0, p1, _, p2, p3⟩ := HRW.out.1.at_ HPM.out
        refine skip_ (w1 := ?_) (by rfl) rfl ?_ ?_
        rotate_left
        · go_simp
          rfl
        refine hK.out _ _ ?_
        clear hK K
        refine done_ (by kernel_rfl) ?_
        have HSEM := Aside0.mk (HSM.out _ _ _ HRW.out.1 (HMM.out.1.lower (by have h1 := HMM.out.2; have h2 := HOU.out.2.2.2; omega)))
        have HFI := Aside0.mk (And.intro (semiAt_len m p i) (HR.out.below HRW.out.2))
        clear HSM
        go_wp2_with fail
        go_roundw
        case measure => simp [intOf]; omega
        case rel =>
          refine ⟨j + 1, by omega, by go_num, ⟨?_⟩⟩
          rw [HNX.out]
          have hgw : w.heap.size ≤ g := by have := HOU.out.2.2.1; omega
          refine ⟨?_, below_set (below_set HFI.out.2.bel hgw) hgw, by have h := HFI.out.2.siz; simpa [World.setCell] using h, fun k hk hne => ?_⟩
          · have h := HSEM.out
            unfold OutAt at h
            rw [HFI.out.1, HOU.out.2.1] at h
            exact h
          · have hkg : k ≠ g := fun e => hne (by rw [e]; rfl)
            exact (Below.heap_setCell _ _ _ _ hkg).trans ((Below.heap_setCell _ _ _ _ hkg).trans (HFI.out.2.gro k hk hne))
      · have hpb : decide (0 ≤ pv) = false := decide_eq_false hp0
        go_wp2_with fail
        go_quiet (fail)
        go_wp2_with fail
        go_roundw
        case measure => simp [intOf]; omega
        case rel =>
          refine ⟨j + 1, by omega, by go_num, ⟨?_⟩⟩
          have hno : parOf P (afterR P)[j] = none := by rw [← HI.out]; exact parOf_none hiP (by rw [← HPV.out]; omega)
          rw [take_snoc _ _ hja, upL_none hno]
          exact HR.out.below (pw_below_drewN (Below.refl _ _) _)
    · have hje : j = O.length := by omega
      subst hje
      go_wp2
      go_ret
      have hfin := HR.out.out
      rw [List.take_of_length_le (by have := HOL.out; omega)] at hfin
      obtain ⟨h1, h2, h3⟩ := Kd.N_reads' hfin
      rw [← h1] at h3
      exact ⟨_, _, rfl, h2, h3, HR.out.bel⟩
end Go.Proofs.YtpimooejnpdlpaaGreatDoor.G

/- The document's Up and Down (layer 16): what they answer. -/
set_option linter.unusedVariables false
set_option linter.unusedSimpArgs false
namespace Go.Proofs.YtpimooejnpdlpaaGreatDoor.G
open Go.RowKit Go.Proofs.YtpimooejnpdlpaaGreatDoorW.PrintWords Go.Proofs.YtpimooejnpdlpaaGreatDoorW.PrintLast Go.Proofs.YtpimooejnpdlpaaGreatDoorW.PrintMore Go.Proofs.YtpimooejnpdlpaaGreatDoor.PRefs
set_option maxHeartbeats 4000000 in
set_option maxRecDepth 100000 in
theorem docdown_any {Ab : Option Addr} {cb : Nat} {B : List (List Int)} {Ap : Option Addr} {cp : Nat} {P : List Int} {A : Option Addr} {c : Nat} {l : List S39} {w : World} (hB : Kd.C KL w Ab B.length B) (hcb : B.length ≤ cb) (hP : Kd.C KI w Ap P.length P) (hcp : P.length ≤ cp) (hC : Kd.C k39 w A l.length l) (hT : TreeOK P id 0) (hD : ∀ j, j < P.length → Desc (parOf P) 0 j) (hp : l.length = P.length) (hl : SmL l) :
    Calls Tryz.prog 13 #[.agg #[.slice Ab B.length cb, .slice Ap P.length cp], .slice A l.length c] w fun e w' => ∃ A' c', e = .returned (.slice A' l.length c') ∧ l.length ≤ c' ∧ Kd.C k39 w' A' l.length (downL (parOf P) (afterR P).reverse l) ∧ Below w.heap.size w w' := by
  have hl6 := hl.1
  have hbe := below_alloc (Below.refl w.heap.size w) (.cells #[.slice Ab B.length cb, .slice Ap P.length cp] 27)
  have hk := heap_alloc_new w (.cells #[.slice Ab B.length cb, .slice Ap P.length cp] 27)
  have q0 := blk2_c0 hk
  have q1 := blk2_c1 hk
  have hsz : (w.alloc (.cells #[.slice Ab B.length cb, .slice Ap P.length cp] 27)).heap.size = w.heap.size + 1 := by simp
  have HB := Aside0.mk (And.intro hbe (And.intro hk hsz))
  have HIN := Aside0.mk (And.intro hB (And.intro hP hC))
  have HT := Aside0.mk hT
  have HCB := Aside0.mk (And.intro hcb hcp)
  have HD := Aside0.mk hD
  have HP := Aside0.mk hp
  have HL := Aside0.mk hl
  have hli := N_lit0r (w.alloc (.cells #[.slice Ab B.length cb, .slice Ap P.length cp] 27)) (fun _ => True) trivial
  have hlb := below_alloc (Below.refl (w.alloc (.cells #[.slice Ab B.length cb, .slice Ap P.length cp] 27)).heap.size (w.alloc (.cells #[.slice Ab B.length cb, .slice Ap P.length cp] 27))) (.cells #[] 39)
  rw [hsz] at hli hlb
  have HLI := Aside0.mk (And.intro hli hlb)
  obtain ⟨O, hO⟩ : ∃ O, ofN (afterR P) = O := ⟨_, rfl⟩
  have HOO := Aside0.mk hO
  have hbh := afterR_behind hT.tree hD
  have HBH := Aside0.mk hbh
  have hOl : O.length = (afterR P).length := by rw [← hO, ofN_len]
  have HOL := Aside0.mk hOl
  have HOr := Aside0.mk (show ∀ k (h : k < (afterR P).length), rd O (k : Int) = ((afterR P)[k] : Int) from fun k h => by rw [← hO]; exact ofN_rd _ _ h)
  have hO6 : O.length ≤ 6 := by have := behind_len hbh; omega
  have HTT := Aside0.mk (show TreeOf l.length (parOf P) id from by rw [hp]; exact hT.tree)
  clear hB hP hC hT hD hp hl hbe hk hsz hcb hcp hli hlb hO hbh hOl
  go_enter Tryz.func13, Tryz.ntmps13
  go_upto_region 3 with (first
    | (have hgd := HO1; clear hgd; go_at_call 25; refine (docafter_is (Kd.C_below HIN.out.1 HO1.out.2.1) HCB.out.1 (Kd.C_below HIN.out.2.1 HO1.out.2.1) HCB.out.2 HT.out (by have := HP.out; omega)).mono ?_; rintro e w3 ⟨Ao, co, rfl, hO3, hb3⟩; rw [HOO.out] at hO3 ⊢; have HO3 := Aside0.mk (And.intro hO3 hb3); clear hO3 hb3)
    | (at_builtin; refine Kd.N_append_rows k39 (w0 := w.alloc (.cells #[.slice Ab B.length cb, .slice Ap P.length cp] 27)) (w.heap.size + 1) rfl (.tmp 10) (.tmp 11) 28 39 (.agg #[.slice none 0 0, .slice none 0 0]) 48 rfl Tryz.underlying28 infoRel2 rfl (by decide) (by decide) (.slice (some ⟨w.heap.size + 1, 0, none⟩) 0 0) [] l A _ _ (fun _ => True) (fun k => k < w.heap.size) rfl rfl HLI.out.1 (Kd.F_below (Kd.C_F heap_rel HIN.out.2.2) (below_alloc HB.out.1 _)) (fun k hk => ⟨trivial, fun e => by have h2 : k < w.heap.size := hk; have e2 : k = w.heap.size + 1 := Option.some.inj e; omega⟩) (fun _ _ => trivial) HLI.out.2 (by simp) (by simp only [List.length_nil]; omega) ?_; intro v2 w2 hN hB hg hat; rw [List.nil_append] at hN; obtain ⟨A2, c2, rfl⟩ := Kd.N_slice hN; have hk2 := (hB.block w.heap.size (Nat.lt_succ_self _)).trans HB.out.2.1; have q0' := blk2_c0 hk2; have q1' := blk2_c1 hk2; have HO1 := Aside0.mk (And.intro hN (And.intro (HB.out.1.trans (hB.mono (Nat.le_succ _))) (And.intro hk2 hB.size))); clear hN hB hg hat hk2))
  clear q0 q1 q0' q1'
  have HR : Aside0 (OutRel w w3 w3 (w.heap.size + 1) A2 l.length c2 (downL (parOf P) ((afterR P).reverse.take ((afterR P).length - O.length)) l)) := by
    have h0 : (afterR P).length - O.length = 0 := by have := HOL.out; omega
    rw [h0]
    exact ⟨⟨Kd.N_below HO1.out.1 HO3.out.2, below_then HO1.out.2.1 HO1.out.2.1.size HO3.out.2, Nat.le_refl _, fun _ _ _ => rfl⟩⟩
  go_wp2_with fail
  go_loopw [7] (fun i W => ∃ (r : Nat), r ≤ O.length ∧ i = .int .i64 r ∧ Aside0 (OutRel w w3 W (w.heap.size + 1) A2 l.length c2 (downL (parOf P) ((afterR P).reverse.take ((afterR P).length - r)) l))) (fun i _ => (intOf i).toNat)
  case atStart => exact ⟨O.length, Nat.le_refl _, rfl, HR⟩
  case round =>
    clear HR
    obtain ⟨r, hr, rfl, HR⟩ := hrel
    rcases r with _ | q
    · rw [show ((0 : Nat) : Int) = 0 from rfl]
      go_wp2
      go_ret
      have hfin := HR.out.out
      rw [List.take_of_length_le (by rw [List.length_reverse]; omega)] at hfin
      obtain ⟨h1, h2, h3⟩ := Kd.N_reads' hfin
      rw [← h1] at h3
      exact ⟨_, _, rfl, h2, h3, HR.out.bel⟩
    · rw [show ((q + 1 : Nat) : Int) = (q : Int) + 1 from by omega]
      have hq0 : (0 : Int) < (q : Int) + 1 := by omega
      have hqd : decide ((0 : Int) < (q : Int) + 1) = true := decide_eq_true hq0
      have hqw : IntKind.i64.wrap (q : Int) = q := IntWalk.i64_in _ (by omega)
      have hjl : (q : Int) < (O.length : Int) := by omega
      have hja : q < (afterR P).length := by have := HOL.out; omega
      obtain ⟨i, hi⟩ : ∃ i, i = (afterR P)[q] := ⟨_, rfl⟩
      have hiP : i < P.length := (HBH.out.mem i).1 (by rw [hi]; exact List.getElem_mem hja)
      have hil : i < l.length := by have := HP.out; omega
      have HREV := Aside0.mk (show (afterR P).reverse.take ((afterR P).length - q) = (afterR P).reverse.take ((afterR P).length - (q + 1)) ++ [(afterR P)[q]] from by
        have h1 : (afterR P).length - q = ((afterR P).length - (q + 1)) + 1 := by omega
        have h2 : (afterR P).length - 1 - ((afterR P).length - (q + 1)) = q := by omega
        rw [h1, take_snoc _ _ (by rw [List.length_reverse]; omega), List.getElem_reverse]
        simp only [h2])
      have hOw := Kd.R_step HO3.out.1 (fun k hk hlt => HR.out.gro k hlt (fun e => by have h2 := Kd.N_lt HO1.out.1 k e.symm; have h3 : w2.heap.size ≤ k := hk; omega))
      obtain ⟨A', c', e', _, hC⟩ := Kd.R_reads hOw
      injection e' with e1 e2 e3
      subst e1 e3
      obtain ⟨ad, rfl, hx⟩ := Kd.at_int hC (q : Int) (by omega) (by omega)
      simp only [Int.toNat_natCast] at hx
      rw [HOr.out q hja, ← hi] at hx
      obtain ⟨ad2, rfl, hy⟩ := Kd.at_int (Kd.C_below HIN.out.2.1 HR.out.bel) (i : Int) (by omega) (by omega)
      simp only [Int.toNat_natCast] at hy
      have hws : w.heap.size < w2.heap.size := by have h1 := HO1.out.2.2.2; have h2 := HB.out.2.2; omega
      have hbx := (HR.out.gro w.heap.size (Nat.lt_of_lt_of_le hws HO3.out.2.size) (fun e => by have h2 := Kd.N_base HO1.out.1 _ e.symm; omega)).trans ((HO3.out.2.block _ hws).trans HO1.out.2.2.1)
      have q1 := blk2_c1 hbx
      have hiPl : (i : Int) < (P.length : Int) := by omega
      have HI := Aside0.mk hi
      obtain ⟨pv, hpv⟩ : ∃ p, p = rd P (i : Int) := ⟨_, rfl⟩
      rw [← hpv] at hy
      have HPV := Aside0.mk hpv
      clear hOw hC hbx hi hpv
      by_cases hp0 : 0 ≤ pv
      · have hpb : decide (0 ≤ pv) = true := decide_eq_true hp0
        go_wp2_with fail
        obtain ⟨p, rfl⟩ := Int.eq_ofNat_of_zero_le hp0
        have hpar : parOf P i = some p := by
          have h := parOf_of hiP (by rw [← HPV.out]; exact hp0)
          rw [← HPV.out, Int.toNat_natCast] at h
          exact h
        have hpl : p < l.length := (HTT.out.lt i p hil hpar).1
        obtain ⟨hml, hms, hmf⟩ := downL_is' HTT.out ((afterR P).reverse.take ((afterR P).length - (q + 1)))
        have hsm := HL.out.down HTT.out ((afterR P).reverse.take ((afterR P).length - (q + 1)))
        have HNX := Aside0.mk (show downL (parOf P) ((afterR P).reverse.take ((afterR P).length - q)) l = semiAt (downL (parOf P) ((afterR P).reverse.take ((afterR P).length - (q + 1))) l) i p from by rw [HREV.out, downL_some (i := (afterR P)[q]) (p := p) (by rw [← HI.out]; exact hpar), ← HI.out])
        obtain ⟨m, hm⟩ : ∃ m, downL (parOf P) ((afterR P).reverse.take ((afterR P).length - (q + 1))) l = m := ⟨_, rfl⟩
        rw [hm] at hml hms hmf hsm HNX HR
        obtain ⟨g, cap, eN, hg1, hg2, _⟩ := Kd.N_form HR.out.out (by rw [hml]; omega)
        obtain ⟨e1, _, e3⟩ := Value.slice.inj eN
        subst e1 e3
        have hout : OutAt wr (w.heap.size + 1) g c2 m := by
          have h := HR.out.out
          unfold OutAt
          rw [hml]
          exact h
        obtain ⟨Ax, cx, Dx, dx, x0, x1, hrx, _, _⟩ := hout.at_ (j := i) (by omega)
        obtain ⟨Ay, cy, Dy, dy, y0, y1, hry, _, _⟩ := hout.at_ (j := p) (by omega)
        have hXt := hsm.2 i (by omega)
        have hYt := hsm.2 p (by omega)
        have hpli : (p : Int) < (l.length : Int) := by omega
        have hili : (i : Int) < (l.length : Int) := by omega
        have hsX := hXt.s
        have hsY := hYt.s
        have hlX := hXt.l
        have hlY := hYt.l
        have hsemi := fun (W' : World) (u v : Value) (h : OutAt W' (w.heap.size + 1) g c2 m) => h.semi (x := u) (y := v) (a := i) (b := p) (by omega)
        have HSM := Aside0.mk hsemi
        have HOU := Aside0.mk (And.intro hout (And.intro hml (And.intro hg1 hg2)))
        have HX := Aside0.mk (And.intro hrx (And.intro hry (And.intro hXt.rt.r hYt.rt.r)))
        have hpm : p < m.length := by omega
        have him : i < m.length := by omega
        have HPM := Aside0.mk him
        have hpmi : (p : Int) < (m.length : Int) := by omega
        have himi : (i : Int) < (m.length : Int) := by omega
        clear hx hy q1 hsm hms hmf hout hrx hry hXt hYt hsemi hml eN hm hg1 hg2
        have hdr : Below wr.heap.size wr wr.drew := below_drew (Below.refl _ _)
        have c1 := (hdr.cell (World.block_lt_of_cell? wr _ x0)).trans x0
        have c2' := (hdr.cell (World.block_lt_of_cell? wr _ x1)).trans x1
        have c3 := (hdr.cell (World.block_lt_of_cell? wr _ y0)).trans y0
        have c4 := (hdr.cell (World.block_lt_of_cell? wr _ y1)).trans y1
        clear x0 x1 y0 y1
        obtain ⟨R, hR⟩ : ∃ R, semiRows (sch m i) (fam m i) (sch m p) (fam m p) = R := ⟨_, rfl⟩
        rw [hR] at HSM
        have HRR := Aside0.mk hR
        clear hR
        generalize sch m i = SX at *
        generalize fam m i = LX at *
        generalize sch m p = SY at *
        generalize fam m p = LY at *
        refine start_ (n := 13) (S := fun w' => w'.cell? ⟨g, i * 2, none⟩ = some (.slice Ax SX.length cx) ∧ w'.cell? ⟨g, i * 2 + 1, none⟩ = some (.slice Dx LX.length dx) ∧ w'.cell? ⟨g, p * 2, none⟩ = some (.slice Ay SY.length cy) ∧ w'.cell? ⟨g, p * 2 + 1, none⟩ = some (.slice Dy LY.length dy) ∧ Below wr.heap.size wr w') (ds := [12]) #[false, false, false, false, false, false, false, false, false, false, false, false, false] (by kernel_rfl) rfl rfl ⟨c1, c2', c3, c4, hdr⟩ (fun hHeld => ?_)
        generalize wr.drew = w17 at *
        refine pure_ (i := 0) (N := some 33) (v := ?_) (a' := ?_) #[true, false, false, false, false, false, false, false, false, false, false, false, false] rfl rfl (by kernel_rfl) (fun _ _ _ h => h) (Or.inl ⟨by rfl, ?_⟩) ?_ ?_
        rotate_left
        · intro w'
          go_simp
          with_reducible rfl
        rotate_left
        · simp only [Act.put, List.setIfInBounds_toArray, List.set_cons_zero, List.set_cons_succ, i64_w, i32_w]
          rfl
        refine pure_ (i := 1) (N := some 34) (v := ?_) (a' := ?_) #[true, true, false, false, false, false, false, false, false, false, false, false, false] rfl rfl (by kernel_rfl) (fun _ _ _ h => h) (Or.inl ⟨by rfl, ?_⟩) ?_ ?_
        rotate_left
        · intro w'
          go_simp
          with_reducible rfl
        rotate_left
        · simp only [Act.put, List.setIfInBounds_toArray, List.set_cons_zero, List.set_cons_succ, i64_w, i32_w]
          rfl
        refine pure_ (i := 2) (N := some 35) (v := ?_) (a' := ?_) #[true, true, true, false, false, false, false, false, false, false, false, false, false] rfl rfl (by kernel_rfl) (fun _ _ _ h => h) (Or.inl ⟨by rfl, ?_⟩) ?_ ?_
        rotate_left
        · intro w'
          go_simp
          with_reducible rfl
        rotate_left
        · simp only [Act.put, List.setIfInBounds_toArray, List.set_cons_zero, List.set_cons_succ, i64_w, i32_w]
          rfl
        refine pure_ (i := 3) (N := some 36) (v := ?_) (a' := ?_) #[true, true, true, true, false, false, false, false, false, false, false, false, false] rfl rfl (by kernel_rfl) (fun _ _ _ h => h) (Or.inl ⟨by rfl, ?_⟩) ?_ ?_
        rotate_left
        · intro w'
          go_simp
          with_reducible rfl
        rotate_left
        · simp only [Act.put, List.setIfInBounds_toArray, List.set_cons_zero, List.set_cons_succ, i64_w, i32_w]
          rfl
        refine pure_ (i := 4) (N := some 37) (v := ?_) (a' := ?_) #[true, true, true, true, true, false, false, false, false, false, false, false, false] rfl rfl (by kernel_rfl) (fun _ _ _ h => h) (Or.inl ⟨by rfl, ?_⟩) ?_ ?_
        rotate_left
        · intro w'
          go_simp
          with_reducible rfl
        rotate_left
        · simp only [Act.put, List.setIfInBounds_toArray, List.set_cons_zero, List.set_cons_succ, i64_w, i32_w]
          rfl
        refine take_ (i := 5) (N := some 38) (v := ?_) (a' := ?_) #[true, true, true, true, true, true, false, false, false, false, false, false, false] rfl rfl (by kernel_rfl) (fun _ _ _ h => h) (Or.inl ⟨by rfl, ?_⟩) hHeld ?_ ?_
        rotate_left
        · rintro w' ⟨s1, s2, s3, s4, _⟩
          go_simp
          with_reducible rfl
        rotate_left
        · simp only [Act.put, List.setIfInBounds_toArray, List.set_cons_zero, List.set_cons_succ, i64_w, i32_w]
          rfl
        refine pure_ (i := 6) (N := some 39) (v := ?_) (a' := ?_) #[true, true, true, true, true, true, true, false, false, false, false, false, false] rfl rfl (by kernel_rfl) (fun _ _ _ h => h) (Or.inl ⟨by rfl, ?_⟩) ?_ ?_
        rotate_left
        · intro w'
          go_simp
          with_reducible rfl
        rotate_left
        · simp only [Act.put, List.setIfInBounds_toArray, List.set_cons_zero, List.set_cons_succ, i64_w, i32_w]
          rfl
        refine pure_ (i := 7) (N := some 40) (v := ?_) (a' := ?_) #[true, true, true, true, true, true, true, true, false, false, false, false, false] rfl rfl (by kernel_rfl) (fun _ _ _ h => h) (Or.inl ⟨by rfl, ?_⟩) ?_ ?_
        rotate_left
        · intro w'
          go_simp
          with_reducible rfl
        rotate_left
        · simp only [Act.put, List.setIfInBounds_toArray, List.set_cons_zero, List.set_cons_succ, i64_w, i32_w]
          rfl
        refine pure_ (i := 8) (N := some 41) (v := ?_) (a' := ?_) #[true, true, true, true, true, true, true, true, true, false, false, false, false] rfl rfl (by kernel_rfl) (fun _ _ _ h => h) (Or.inl ⟨by rfl, ?_⟩) ?_ ?_
        rotate_left
        · intro w'
          go_simp
          with_reducible rfl
        rotate_left
        · simp only [Act.put, List.setIfInBounds_toArray, List.set_cons_zero, List.set_cons_succ, i64_w, i32_w]
          rfl
        refine take_ (i := 9) (N := some 42) (v := ?_) (a' := ?_) #[true, true, true, true, true, true, true, true, true, true, false, false, false] rfl rfl (by kernel_rfl) (fun _ _ _ h => h) (Or.inl ⟨by rfl, ?_⟩) hHeld ?_ ?_
        rotate_left
        · rintro w' ⟨s1, s2, s3, s4, _⟩
          go_simp
          with_reducible rfl
        rotate_left
        · simp only [Act.put, List.setIfInBounds_toArray, List.set_cons_zero, List.set_cons_succ, i64_w, i32_w]
          rfl
        refine one_ (i := 10) (N := some 43) #[true, true, true, true, true, true, true, true, true, true, true, false, false] rfl rfl (by kernel_rfl) (by decide) (fun K hK => ?_)
        refine goes_ Tryz.func26 (by kernel_rfl) rfl #[.agg #[.slice Ax SX.length cx, .slice Dx LX.length dx], .agg #[.slice Ay SY.length cy, .slice Dy LY.length dy]] (by rfl) rfl rfl (by (try simp only [List.map_toArray, List.map_cons, List.map_nil]); first | done | rfl) ?_
        refine (docsemi_m (HX.out.1.step hdr) (HX.out.2.1.step hdr) HX.out.2.2.1 HX.out.2.2.2 (by omega) (by omega) (by omega) (by omega) HRR.out).mono ?_
        rintro e w' ⟨A2, c2'', A3, c3', rfl, hM, hb⟩
        refine ⟨_, rfl, ?_⟩
        have hbW := below_then hdr hdr.size hb
        have hst := fun {p : Addr} {v : Value} (h : w17.cell? p = some v) => (hb.cell (World.block_lt_of_cell? w17 _ h)).trans h
        have HRW := Aside0.mk (And.intro (HOU.out.1.below hbW) hbW)
        have HMM := Aside0.mk (And.intro hM hdr.size)
        refine hK.out _ _ ⟨hst c1, hst c2', hst c3, hst c4, hbW⟩ (fun hHeld => ?_)
        clear hK K
        refine norm_ (a' := ?_) ?_ ?_
        rotate_left
        · show Act.put _ (some 43) _ = _
          simp only [Act.put, List.setIfInBounds_toArray, List.set_cons_zero, List.set_cons_succ, i64_w, i32_w]
          rfl
        refine pure_ (i := 11) (N := some 44) (v := ?_) (a' := ?_) #[true, true, true, true, true, true, true, true, true, true, true, true, false] rfl rfl (by kernel_rfl) (fun _ _ _ h => h) (Or.inl ⟨by rfl, ?_⟩) ?_ ?_
        rotate_left
        · intro w'
          go_simp
          with_reducible rfl
        rotate_left
        · simp only [Act.put, List.setIfInBounds_toArray, List.set_cons_zero, List.set_cons_succ, i64_w, i32_w]
          rfl
        refine last_ (i := 12) (N := none) #[true, true, true, true, true, true, true, true, true, true, true, true, true] rfl rfl (by kernel_rfl) (by decide) (fun K hK => ?_)
        obtain ⟨_, _, _, _, p0, p1, _, p2, p3⟩ := HRW.out.1.at_ HPM.out
        refine skip_ (w1 := ?_) (by rfl) rfl ?_ ?_
        rotate_left
        · go_simp
          rfl
        refine hK.out _ _ ?_
        clear hK K
        refine done_ (by kernel_rfl) ?_
        have HSEM := Aside0.mk (HSM.out _ _ _ HRW.out.1 (HMM.out.1.lower (by have h1 := HMM.out.2; have h2 := HOU.out.2.2.2; omega)))
        have HFI := Aside0.mk (And.intro (semiAt_len m i p) (HR.out.below HRW.out.2))
        clear HSM
        go_wp2_with fail
        go_roundw
        case measure => simp [intOf] <;> omega
        case rel =>
          refine ⟨q, by omega, by go_num, ⟨?_⟩⟩
          rw [HNX.out]
          have hgw : w.heap.size ≤ g := by have := HOU.out.2.2.1; omega
          refine ⟨?_, below_set (below_set HFI.out.2.bel hgw) hgw, by have h := HFI.out.2.siz; simpa [World.setCell] using h, fun k hk hne => ?_⟩
          · have h := HSEM.out
            unfold OutAt at h
            rw [HFI.out.1, HOU.out.2.1] at h
            exact h
          · have hkg : k ≠ g := fun e => hne (by rw [e]; rfl)
            exact (Below.heap_setCell _ _ _ _ hkg).trans ((Below.heap_setCell _ _ _ _ hkg).trans (HFI.out.2.gro k hk hne))
      · have hpb : decide (0 ≤ pv) = false := decide_eq_false hp0
        go_wp2_with fail
        go_roundw
        case measure => simp [intOf] <;> omega
        case rel =>
          refine ⟨q, by omega, by go_num, ⟨?_⟩⟩
          have hno : parOf P (afterR P)[q] = none := by rw [← HI.out]; exact parOf_none hiP (by rw [← HPV.out]; omega)
          rw [HREV.out, downL_none hno]
          exact HR.out
theorem docup_is {Ab : Option Addr} {cb : Nat} {B : List (List Int)} {Ap : Option Addr} {cp : Nat} {P : List Int} {A : Option Addr} {c : Nat} {l : List S39} {w : World} (hB : Kd.C KL w Ab B.length B) (hcb : B.length ≤ cb) (hP : Kd.C KI w Ap P.length P) (hcp : P.length ≤ cp) (hC : Kd.C k39 w A l.length l) (hT : TreeOK P id 0) (hD : ∀ j, j < P.length → Desc (parOf P) 0 j) (hp : l.length = P.length) (hl : SmL l) {X : List S39} (hX : upL (parOf P) (afterR P) l = X) (hXl : X.length = l.length) :
    Calls Tryz.prog 12 #[.agg #[.slice Ab B.length cb, .slice Ap P.length cp], .slice A l.length c] w fun e w' => ∃ A' c', e = .returned (.slice A' X.length c') ∧ X.length ≤ c' ∧ Kd.C k39 w' A' X.length X ∧ Below w.heap.size w w' := by
  refine (docup_any hB hcb hP hcp hC hT hD hp hl).mono ?_
  rintro e w' ⟨A', c', rfl, h1, h2, h3⟩
  rw [hX] at h2
  rw [← hXl] at h1 h2 ⊢
  exact ⟨A', c', rfl, h1, h2, h3⟩
theorem docdown_is {Ab : Option Addr} {cb : Nat} {B : List (List Int)} {Ap : Option Addr} {cp : Nat} {P : List Int} {A : Option Addr} {c : Nat} {l : List S39} {w : World} (hB : Kd.C KL w Ab B.length B) (hcb : B.length ≤ cb) (hP : Kd.C KI w Ap P.length P) (hcp : P.length ≤ cp) (hC : Kd.C k39 w A l.length l) (hT : TreeOK P id 0) (hD : ∀ j, j < P.length → Desc (parOf P) 0 j) (hp : l.length = P.length) (hl : SmL l) {X : List S39} (hX : downL (parOf P) (afterR P).reverse l = X) (hXl : X.length = l.length) :
    Calls Tryz.prog 13 #[.agg #[.slice Ab B.length cb, .slice Ap P.length cp], .slice A l.length c] w fun e w' => ∃ A' c', e = .returned (.slice A' X.length c') ∧ X.length ≤ c' ∧ Kd.C k39 w' A' X.length X ∧ Below w.heap.size w w' := by
  refine (docdown_any hB hcb hP hcp hC hT hD hp hl).mono ?_
  rintro e w' ⟨A', c', rfl, h1, h2, h3⟩
  rw [hX] at h2
  rw [← hXl] at h1 h2 ⊢
  exact ⟨A', c', rfl, h1, h2, h3⟩
end Go.Proofs.YtpimooejnpdlpaaGreatDoor.G
