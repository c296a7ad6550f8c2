/- Several texts of this claim in one. -/
import Derived.Test.YtpimooejnpdlpaaGreatDoorMC
import Derived.Lib.ItoaMem
/- Plain laws of joins: what goes together of two relations. No program in sight. -/
set_option linter.unusedVariables false
set_option linter.unusedSimpArgs false
namespace Go.Proofs.YtpimooejnpdlpaaGreatDoor.G
open Go.RowKit Go.Proofs.YtpimooejnpdlpaaGreatDoorW.PrintWords Go.Proofs.YtpimooejnpdlpaaGreatDoorW.PrintLast Go.Proofs.YtpimooejnpdlpaaGreatDoorW.PrintMore

/-! ### two rising rows put together -/
theorem rise_same {l m : List Int} (hl : Rise l) (hm : Rise m) (h : ∀ a, a ∈ l ↔ a ∈ m) : l = m :=
  rise_perm (hl.imp fun {a b} (hab : a < b) => by omega) hm ((List.perm_ext_iff_of_nodup hl.nodup hm.nodup).2 h)

/-! ### a row cut to some variables -/
def restr (U S x : List Int) : List Int := S.map (look U x)
theorem cut_restr (sc : List Int) (rows : List (List Int)) (on : List Int) (hr : ∀ t ∈ rows, t.length = sc.length) (ho : ∀ v ∈ on, v ∈ sc) (x : List Int) : x ∈ cutRows sc rows on ↔ ∃ t ∈ rows, restr sc on t = x := by
  rw [cut_look sc rows on hr ho, Pl.mem_sortU, List.mem_map]; rfl

/-! ### what goes together -/
def fits (sc sd t u : List Int) : Bool := decide (∀ v ∈ sc, v ∈ sd → look sc t v = look sd u v)
/-! ### what goes together with something -/
def semiRows (sc : List Int) (L : List (List Int)) (sd : List Int) (M : List (List Int)) : List (List Int) := L.filter fun t => M.any (fits sc sd t)
theorem right_semi {sc : List Int} {L : List (List Int)} (h : RightP sc L) (sd : List Int) (M : List (List Int)) : RightP sc (semiRows sc L sd M) :=
  ⟨h.1, fun t ht => h.2.1 t (memF ht), List.Pairwise.filter _ h.2.2⟩
/-! ### both have the same of what both have -/
/-- A row of the one fits one of the other just if what both have of it is there. -/
theorem fits_iff {sc sd t u : List Int} (hs : Rise sc) (hd : Rise sd) : fits sc sd t u = true ↔ restr sc (onto sc sd) t = restr sd (onto sc sd) u := by
  rw [onto_eq sc sd hs]
  constructor
  · intro hf
    refine List.map_congr_left fun v hv => ?_
    rw [List.mem_filter] at hv
    exact of_decide_eq_true hf v hv.1 (of_decide_eq_true hv.2)
  · intro he
    refine decide_eq_true fun v hv hv' => ?_
    have hm : v ∈ sc.filter fun x => decide (x ∈ sd) := List.mem_filter.2 ⟨hv, by simpa using hv'⟩
    have := congrArg (fun l => look (sc.filter fun x => decide (x ∈ sd)) l v) he
    simp only [restr] at this
    rwa [look_map hm, look_map hm] at this
theorem onto_comm {sc sd : List Int} (hs : Rise sc) (hd : Rise sd) : onto sc sd = onto sd sc := by
  rw [onto_eq sc sd hs, onto_eq sd sc hd]
  refine rise_same (hs.filter _) (hd.filter _) fun a => ?_
  simp [and_comm]
theorem semi_all {sc sd : List Int} {L M : List (List Int)} (h : RightP sc L) (h' : RightP sd M) : semiRows sc L sd M = L ↔ ∀ x ∈ (projRel sc L sd).2, x ∈ (projRel sd M sc).2 := by
  have s1 : ∀ v ∈ onto sc sd, v ∈ sc := fun v hv => by rw [onto_eq sc sd h.1.1] at hv; exact memF hv
  have s2 : ∀ v ∈ onto sd sc, v ∈ sd := fun v hv => by rw [onto_eq sd sc h'.1.1] at hv; exact memF hv
  have e : semiRows sc L sd M = L ↔ ∀ t ∈ L, ∃ u ∈ M, fits sc sd t u = true := by
    unfold semiRows
    rw [List.filter_eq_self]
    simp only [List.any_eq_true]
  rw [e]
  show _ ↔ ∀ x ∈ cutRows sc L (onto sc sd), x ∈ cutRows sd M (onto sd sc)
  constructor
  · intro hf x hx
    obtain ⟨t, ht, rfl⟩ := (cut_restr sc L _ h.2.1 s1 x).1 hx
    obtain ⟨u, hu, hfu⟩ := hf t ht
    refine (cut_restr sd M _ h'.2.1 s2 _).2 ⟨u, hu, ?_⟩
    rw [(fits_iff h.1.1 h'.1.1).1 hfu, onto_comm h.1.1 h'.1.1]
  · intro hf t ht
    obtain ⟨u, hu, he⟩ := (cut_restr sd M _ h'.2.1 s2 _).1 (hf _ ((cut_restr sc L _ h.2.1 s1 _).2 ⟨t, ht, rfl⟩))
    refine ⟨u, hu, (fits_iff h.1.1 h'.1.1).2 ?_⟩
    rw [← he, onto_comm h.1.1 h'.1.1]
/-- Two agree just if nothing of either is lost. -/
theorem agree_iff {sc sd : List Int} {L M : List (List Int)} (h : RightP sc L) (h' : RightP sd M) : projRel sc L sd = projRel sd M sc ↔ semiRows sc L sd M = L ∧ semiRows sd M sc L = M := by
  rw [semi_all h h', semi_all h' h]
  have e : (projRel sc L sd).1 = (projRel sd M sc).1 := onto_comm h.1.1 h'.1.1
  constructor
  · intro he
    rw [he]
    exact ⟨fun x hx => hx, fun x hx => hx⟩
  · rintro ⟨h1, h2⟩
    refine Prod.ext e ?_
    exact Pl.Up.ext (cutRows_up _ _ _) (cutRows_up _ _ _) fun x => ⟨h1 x, h2 x⟩
end Go.Proofs.YtpimooejnpdlpaaGreatDoor.G

/- Plain laws of joins, the second part: how many rows there are; what agrees. No program in sight. -/
set_option linter.unusedVariables false
set_option linter.unusedSimpArgs false
namespace Go.Proofs.YtpimooejnpdlpaaGreatDoor.G
open Go.RowKit Go.Proofs.YtpimooejnpdlpaaGreatDoorW.PrintWords Go.Proofs.YtpimooejnpdlpaaGreatDoorW.PrintLast Go.Proofs.YtpimooejnpdlpaaGreatDoorW.PrintMore

theorem fits_symm (sc sd t u : List Int) : fits sc sd t u = fits sd sc u t := by
  unfold fits
  rw [decide_eq_decide]
  exact ⟨fun h v hv hv' => (h v hv' hv).symm, fun h v hv hv' => (h v hv' hv).symm⟩
theorem mem_semi {sc sd : List Int} {L M : List (List Int)} {t : List Int} : t ∈ semiRows sc L sd M ↔ t ∈ L ∧ ∃ u ∈ M, fits sc sd t u = true := by
  unfold semiRows
  rw [List.mem_filter, List.any_eq_true]
/-! ### how many -/
end Go.Proofs.YtpimooejnpdlpaaGreatDoor.G

/- A tuple's text (join.key): two tuples have one text just if they are one. No program in sight. -/
set_option linter.unusedVariables false
set_option linter.unusedSimpArgs false
namespace Go.Proofs.YtpimooejnpdlpaaGreatDoor.G
open Go.Lib

def keyText (t : List Int) : List UInt8 := t.flatMap fun n => 32 :: itoa n
def valD (l : List UInt8) : Nat := l.foldl (fun a b => 10 * a + (b.toNat - 48)) 0
theorem valD_snoc (l : List UInt8) (b : UInt8) : valD (l ++ [b]) = 10 * valD l + (b.toNat - 48) := by simp [valD, List.foldl_append]
theorem digit_nat {i : Nat} (h : i < 10) : (UInt8.ofNat (48 + i)).toNat = 48 + i := by
  rw [UInt8.toNat_ofNat']; omega
theorem decDigits_val (u : Nat) : valD (decDigits u) = u ∧ ∀ b ∈ decDigits u, 48 ≤ b.toNat ∧ b.toNat ≤ 57 := by
  induction u using Nat.strongRecOn with
  | _ u ih =>
    rw [decDigits]
    split
    · rename_i h
      refine ⟨?_, fun b hb => ?_⟩
      · show 10 * 0 + ((UInt8.ofNat (48 + u)).toNat - 48) = u
        rw [digit_nat h]; omega
      · rw [List.mem_singleton.1 hb, digit_nat h]; omega
    · rename_i h
      obtain ⟨h1, h2⟩ := ih (u / 10) (by omega)
      have hd := digit_nat (show u % 10 < 10 by omega)
      refine ⟨?_, fun b hb => ?_⟩
      · rw [valD_snoc, h1, hd]; omega
      · rcases List.mem_append.1 hb with e | e
        · exact h2 b e
        · rw [List.mem_singleton.1 e, hd]; omega
theorem decDigits_inj {u v : Nat} (h : decDigits u = decDigits v) : u = v := by
  rw [← (decDigits_val u).1, h, (decDigits_val v).1]
theorem itoa_no32 (n : Int) : ∀ b ∈ itoa n, b ≠ 32 := fun b hb e => by
  subst e
  unfold itoa at hb
  split at hb
  · rcases List.mem_cons.1 hb with e | e
    · exact absurd e (by decide)
    · have h1 := ((decDigits_val _).2 _ e).1
      exact absurd h1 (by decide)
  · have h1 := ((decDigits_val _).2 _ hb).1
    exact absurd h1 (by decide)
theorem no_minus (u : Nat) (l : List UInt8) : decDigits u ≠ 45 :: l := fun e => by
  have h1 := ((decDigits_val u).2 45 (by rw [e]; exact List.mem_cons_self)).1
  exact absurd h1 (by decide)
theorem itoa_inj {n m : Int} (h : itoa n = itoa m) : n = m := by
  unfold itoa at h
  by_cases hn : n < 0
  · rw [if_pos hn] at h
    by_cases hm : m < 0
    · rw [if_pos hm] at h
      have := decDigits_inj (List.cons.inj h).2
      omega
    · rw [if_neg hm] at h
      exact absurd h.symm (no_minus _ _)
  · rw [if_neg hn] at h
    by_cases hm : m < 0
    · rw [if_pos hm] at h
      exact absurd h (no_minus _ _)
    · rw [if_neg hm] at h
      have := decDigits_inj h
      omega
theorem span32 (a r : List UInt8) (ha : ∀ b ∈ a, b ≠ 32) (hr : r = [] ∨ ∃ s, r = 32 :: s) : (a ++ r).takeWhile (fun b => decide (b ≠ 32)) = a ∧ (a ++ r).dropWhile (fun b => decide (b ≠ 32)) = r := by
  induction a with
  | nil =>
    rcases hr with rfl | ⟨s, rfl⟩
    · exact ⟨rfl, rfl⟩
    · exact ⟨rfl, rfl⟩
  | cons x a ih =>
    have hx := ha x List.mem_cons_self
    obtain ⟨h1, h2⟩ := ih fun b hb => ha b (List.mem_cons_of_mem _ hb)
    simp only [List.cons_append]
    rw [List.takeWhile_cons_of_pos (by simpa using hx), List.dropWhile_cons_of_pos (by simpa using hx), h1, h2]
    exact ⟨rfl, rfl⟩
theorem keyText_starts (t : List Int) : keyText t = [] ∨ ∃ s, keyText t = 32 :: s := by
  cases t with
  | nil => exact .inl rfl
  | cons n t => exact .inr ⟨itoa n ++ keyText t, rfl⟩
theorem keyText_inj {t u : List Int} (h : keyText t = keyText u) : t = u := by
  induction t generalizing u with
  | nil =>
    cases u with
    | nil => rfl
    | cons m u => cases h
  | cons n t ih =>
    cases u with
    | nil => cases h
    | cons m u =>
      have h' : itoa n ++ keyText t = itoa m ++ keyText u := (List.cons.inj h).2
      obtain ⟨a1, a2⟩ := span32 (itoa n) (keyText t) (itoa_no32 n) (keyText_starts t)
      obtain ⟨b1, b2⟩ := span32 (itoa m) (keyText u) (itoa_no32 m) (keyText_starts u)
      rw [h'] at a1 a2
      rw [itoa_inj (a1.symm.trans b1), ih (a2.symm.trans b2)]
end Go.Proofs.YtpimooejnpdlpaaGreatDoor.G

/- What join's code computes is the join: plain laws. No program in sight. -/
set_option linter.unusedVariables false
set_option linter.unusedSimpArgs false
namespace Go.Proofs.YtpimooejnpdlpaaGreatDoor.G
open Go.RowKit Go.Proofs.YtpimooejnpdlpaaGreatDoorW.PrintWords Go.Proofs.YtpimooejnpdlpaaGreatDoorW.PrintLast Go.Proofs.YtpimooejnpdlpaaGreatDoorW.PrintMore

/-- What both schemes have. -/
def meetS (sa sb : List Int) : List Int := merge false true false sa sb
theorem meet_onto {sa sb : List Int} (h : Rise sb) : meetS sa sb = onto sa sb := by
  unfold meetS onto
  rw [rise_same (uniqI_spec sb).1 h (uniqI_spec sb).2]
/-- The rows of a relation that have a text. -/
def groupOf (sd : List Int) (M : List (List Int)) (vars : List Int) (q : List UInt8) : List (List Int) := M.filter fun u => decide (keyText (pick u (vars.map (idx sd))) = q)
theorem group_take (sd : List Int) (M : List (List Int)) (vars : List Int) (k : Nat) (h : k < M.length) :
    (fun q => groupOf sd (M.take (k + 1)) vars q) = fun q => if q = keyText (pick (M.getD k []) (vars.map (idx sd))) then groupOf sd (M.take k) vars (keyText (pick (M.getD k []) (vars.map (idx sd)))) ++ [M.getD k []] else groupOf sd (M.take k) vars q := by
  funext q
  unfold groupOf
  rw [List.take_succ_eq_append_getElem h, getD_get _ _ h, List.filter_append]
  by_cases e : q = keyText (pick M[k] (vars.map (idx sd)))
  · rw [if_pos e, List.filter_cons_of_pos (by simp [e]), e]; rfl
  · rw [if_neg e, List.filter_cons_of_neg (by simpa using fun e' => e e'.symm)]; simp
theorem key_fits {sa sb : List Int} (h : Rise sa) (h' : Rise sb) {t u : List Int} (ht : t.length = sa.length) (hu : u.length = sb.length) :
    decide (keyText (pick u ((meetS sa sb).map (idx sb))) = keyText (pick t ((meetS sa sb).map (idx sa)))) = fits sa sb t u := by
  have s1 : ∀ v ∈ onto sa sb, v ∈ sa := fun v hv => by rw [onto_eq sa sb h] at hv; exact memF hv
  have s2 : ∀ v ∈ onto sa sb, v ∈ sb := fun v hv => by rw [onto_eq sa sb h, List.mem_filter] at hv; exact of_decide_eq_true hv.2
  rw [meet_onto h', pick_look sb u _ hu s2, pick_look sa t _ ht s1]
  rw [Bool.eq_iff_iff, decide_eq_true_eq, fits_iff h h']
  constructor
  · intro e
    exact (keyText_inj e).symm
  · intro e
    show keyText (restr sb (onto sa sb) u) = keyText (restr sa (onto sa sb) t)
    rw [e]
theorem group_fits {sa sb : List Int} {Lb : List (List Int)} (h : Rise sa) (h' : RightP sb Lb) {t : List Int} (ht : t.length = sa.length) :
    groupOf sb Lb (meetS sa sb) (keyText (pick t ((meetS sa sb).map (idx sa)))) = Lb.filter (fits sa sb t) :=
  List.filter_congr fun u hu => key_fits h h'.1.1 ht (h'.2.1 u hu)
theorem group_len (sd : List Int) (M : List (List Int)) (vars : List Int) (q : List UInt8) : (groupOf sd M vars q).length ≤ M.length := List.length_filter_le _ _
theorem pick_len (t ps : List Int) : (pick t ps).length ≤ ps.length := by unfold pick; exact List.length_filterMap_le _ _
theorem pick_mem {t ps : List Int} {x : Int} (h : x ∈ pick t ps) : x ∈ t := by
  unfold pick at h
  obtain ⟨p, _, hp⟩ := List.mem_filterMap.1 h
  split at hp
  · rename_i hh
    have e := Option.some.inj hp
    obtain ⟨k, rfl⟩ : ∃ k : Nat, p = k := ⟨p.toNat, by omega⟩
    rw [← e, rd_get t k (by omega)]
    exact List.getElem_mem _
  · cases hp
/-- The rows of the first that go with something. -/
def semiCode (sa : List Int) (La : List (List Int)) (sb : List Int) (Lb : List (List Int)) : List (List Int) :=
  La.filter fun t => decide (0 < (groupOf sb Lb (meetS sa sb) (keyText (pick t ((meetS sa sb).map (idx sa))))).length)
theorem semi_eq {sa sb : List Int} {La Lb : List (List Int)} (h : RightP sa La) (h' : RightP sb Lb) : semiCode sa La sb Lb = semiRows sa La sb Lb := by
  unfold semiCode semiRows
  refine List.filter_congr fun t ht => ?_
  rw [group_fits h.1.1 h' (h.2.1 t ht), Bool.eq_iff_iff, decide_eq_true_eq, List.any_eq_true, List.length_pos_iff_exists_mem]
  exact ⟨fun ⟨u, hu⟩ => ⟨u, (List.mem_filter.1 hu).1, (List.mem_filter.1 hu).2⟩, fun ⟨u, h1, h2⟩ => ⟨u, List.mem_filter.2 ⟨h1, h2⟩⟩⟩
/-- Numbers that an int64 may be. -/
def InR (L : List (List Int)) : Prop := ∀ t ∈ L, ∀ x ∈ t, -9223372036854775808 ≤ x ∧ x ≤ 9223372036854775807
theorem inR_filter {L : List (List Int)} (h : InR L) (p : List Int → Bool) : InR (L.filter p) := fun t ht => h t (memF ht)
end Go.Proofs.YtpimooejnpdlpaaGreatDoor.G
