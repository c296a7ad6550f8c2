/- Several texts of this claim in one. -/
import Derived.Test.YtlmkgghpaaadhaaGreatDoorMC
import Derived.Lib.ItoaMem
/- Plain laws of joins: what goes together of two relations. No program in sight. -/
set_option linter.unusedVariables false
set_option linter.unusedSimpArgs false
namespace Go.Proofs.YtlmkgghpaaadhaaGreatDoor.G
open Go.RowKit Go.Proofs.YtlmkgghpaaadhaaGreatDoorW.PrintWords Go.Proofs.YtlmkgghpaaadhaaGreatDoorW.PrintLast Go.Proofs.YtlmkgghpaaadhaaGreatDoorW.PrintMore

/-! ### two rising rows put together -/
theorem merge_mem (l m : List Int) (a : Int) : a ∈ merge true true true l m ↔ a ∈ l ∨ a ∈ m := by
  induction l, m using merge.induct with
  | case1 => unfold merge; simp
  | case2 x l ih => unfold merge; simp [ih]
  | case3 y m ih => unfold merge; simp [ih]
  | case4 x l y m h ih =>
    unfold merge
    rw [if_pos h]
    simp only [if_true, List.singleton_append, List.mem_cons, ih]
    constructor
    · rintro (h | h | h | h) <;> simp [h]
    · rintro ((h | h) | h | h) <;> simp [h]
  | case5 x l y m h h' ih =>
    unfold merge
    rw [if_neg h, if_pos h']
    simp only [if_true, List.singleton_append, List.mem_cons, ih]
    constructor
    · rintro (h | (h | h) | h) <;> simp [h]
    · rintro ((h | h) | h | h) <;> simp [h]
  | case6 x l y m h h' ih =>
    have e : x = y := by omega
    subst e
    unfold merge
    rw [if_neg h, if_neg h']
    simp only [if_true, List.singleton_append, List.mem_cons, ih]
    constructor
    · rintro (h | h | h) <;> simp [h]
    · rintro ((h | h) | h | h) <;> simp [h]
theorem merge_rise (l m : List Int) : Rise l → Rise m → Rise (merge true true true l m) := by
  induction l, m using merge.induct with
  | case1 => intro _ _; unfold merge; exact List.Pairwise.nil
  | case2 x l ih =>
    intro h1 h2
    have h1' := List.pairwise_cons.1 h1
    unfold merge
    refine List.pairwise_cons.2 ⟨fun z hz => ?_, ih h1'.2 h2⟩
    have hz' := (merge_mem _ _ z).1 hz
    rcases hz' with e | e
    · exact h1'.1 z e
    · cases e
  | case3 y m ih =>
    intro h1 h2
    have h2' := List.pairwise_cons.1 h2
    unfold merge
    refine List.pairwise_cons.2 ⟨fun z hz => ?_, ih h1 h2'.2⟩
    have hz' := (merge_mem _ _ z).1 hz
    rcases hz' with e | e
    · cases e
    · exact h2'.1 z e
  | case4 x l y m h ih =>
    intro h1 h2
    have h1' := List.pairwise_cons.1 h1
    have h2' := List.pairwise_cons.1 h2
    unfold merge
    rw [if_pos h]
    refine List.pairwise_cons.2 ⟨fun z hz => ?_, ih h1'.2 h2⟩
    have hz' := (merge_mem _ _ z).1 hz
    rcases hz' with e | e
    · exact h1'.1 z e
    · rcases List.mem_cons.1 e with e | e
      · omega
      · have := h2'.1 z e; omega
  | case5 x l y m h h' ih =>
    intro h1 h2
    have h1' := List.pairwise_cons.1 h1
    have h2' := List.pairwise_cons.1 h2
    unfold merge
    rw [if_neg h, if_pos h']
    refine List.pairwise_cons.2 ⟨fun z hz => ?_, ih h1 h2'.2⟩
    have hz' := (merge_mem _ _ z).1 hz
    rcases hz' with e | e
    · rcases List.mem_cons.1 e with e | e
      · omega
      · have := h1'.1 z e; omega
    · exact h2'.1 z e
  | case6 x l y m h h' ih =>
    intro h1 h2
    have h1' := List.pairwise_cons.1 h1
    have h2' := List.pairwise_cons.1 h2
    have e : x = y := by omega
    subst e
    unfold merge
    rw [if_neg h, if_neg h']
    refine List.pairwise_cons.2 ⟨fun z hz => ?_, ih h1'.2 h2'.2⟩
    have hz' := (merge_mem _ _ z).1 hz
    rcases hz' with e | e
    · exact h1'.1 z e
    · exact h2'.1 z e
theorem rise_same {l m : List Int} (hl : Rise l) (hm : Rise m) (h : ∀ a, a ∈ l ↔ a ∈ m) : l = m :=
  rise_perm (hl.imp fun {a b} (hab : a < b) => by omega) hm ((List.perm_ext_iff_of_nodup hl.nodup hm.nodup).2 h)

/-- The scheme of both. -/
def uni (sc sd : List Int) : List Int := merge true true true sc sd
theorem mem_uni {sc sd : List Int} {a : Int} : a ∈ uni sc sd ↔ a ∈ sc ∨ a ∈ sd := merge_mem sc sd a
theorem uni_nil {sc : List Int} (h : Rise sc) : uni sc [] = sc := rise_same (merge_rise _ _ h List.Pairwise.nil) h fun a => by show a ∈ uni sc [] ↔ a ∈ sc; rw [mem_uni]; simp

/-! ### a row cut to some variables -/
def restr (U S x : List Int) : List Int := S.map (look U x)
theorem restr_self {U x : List Int} (h : Rise U) (hx : x.length = U.length) : restr U U x = x := look_self h.nodup hx
/-! ### what goes together -/
def fits (sc sd t u : List Int) : Bool := decide (∀ v ∈ sc, v ∈ sd → look sc t v = look sd u v)
def bothRow (sc sd t u : List Int) : List Int := (uni sc sd).map fun v => if v ∈ sc then look sc t v else look sd u v
def joinRows (sc : List Int) (L : List (List Int)) (sd : List Int) (M : List (List Int)) : List (List Int) := Pl.sortU (L.flatMap fun t => (M.filter (fits sc sd t)).map (bothRow sc sd t))
theorem joinRows_up (sc : List Int) (L : List (List Int)) (sd : List Int) (M : List (List Int)) : Pl.Up (joinRows sc L sd M) := Pl.sortU_up _
theorem mem_join {sc sd : List Int} {L M : List (List Int)} (h : RightP sc L) (h' : RightP sd M) (x : List Int) :
    x ∈ joinRows sc L sd M ↔ x.length = (uni sc sd).length ∧ restr (uni sc sd) sc x ∈ L ∧ restr (uni sc sd) sd x ∈ M := by
  have hU : Rise (uni sc sd) := merge_rise _ _ h.1.1 h'.1.1
  have s1 : ∀ v ∈ sc, v ∈ uni sc sd := fun v hv => mem_uni.2 (.inl hv)
  have s2 : ∀ v ∈ sd, v ∈ uni sc sd := fun v hv => mem_uni.2 (.inr hv)
  unfold joinRows
  rw [Pl.mem_sortU, List.mem_flatMap]
  constructor
  · rintro ⟨t, ht, hx⟩
    obtain ⟨u, hu, rfl⟩ := List.mem_map.1 hx
    rw [List.mem_filter] at hu
    have hf := of_decide_eq_true hu.2
    have e1 : restr (uni sc sd) sc (bothRow sc sd t u) = t := by
      conv => rhs; rw [← look_self h.1.1.nodup (h.2.1 t ht)]
      refine List.map_congr_left fun v hv => ?_
      rw [bothRow, look_map (s1 v hv), if_pos hv]
    have e2 : restr (uni sc sd) sd (bothRow sc sd t u) = u := by
      conv => rhs; rw [← look_self h'.1.1.nodup (h'.2.1 u hu.1)]
      refine List.map_congr_left fun v hv => ?_
      rw [bothRow, look_map (s2 v hv)]
      by_cases hvs : v ∈ sc
      · rw [if_pos hvs]; exact hf v hvs hv
      · rw [if_neg hvs]
    rw [e1, e2]
    exact ⟨by simp [bothRow], ht, hu.1⟩
  · rintro ⟨hl, h1, h2⟩
    refine ⟨_, h1, List.mem_map.2 ⟨_, List.mem_filter.2 ⟨h2, decide_eq_true fun v hv hv' => ?_⟩, ?_⟩⟩
    · rw [restr, look_map hv, restr, look_map hv']
    · conv => rhs; rw [← restr_self hU hl]
      refine List.map_congr_left fun v hv => ?_
      by_cases hvs : v ∈ sc
      · rw [if_pos hvs, restr, look_map hvs]
      · rw [if_neg hvs, restr, look_map ((mem_uni.1 hv).resolve_left hvs)]
theorem right_unit : RightP [] [[]] := by decide
theorem join_unit {sc : List Int} {L : List (List Int)} (h : RightP sc L) : joinRows sc L [] [[]] = L := by
  refine (joinRows_up _ _ _ _).ext h.2.2 fun x => ?_
  rw [mem_join h right_unit, uni_nil h.1.1]
  constructor
  · rintro ⟨a, b, _⟩
    rwa [restr_self h.1.1 a] at b
  · intro hx
    have hl := h.2.1 x hx
    rw [restr_self h.1.1 hl]
    exact ⟨hl, hx, by simp [restr]⟩
/-! ### what goes together with something -/
/-! ### both have the same of what both have -/
/-- A row of the one fits one of the other just if what both have of it is there. -/
theorem fits_iff {sc sd t u : List Int} (hs : Rise sc) (hd : Rise sd) : fits sc sd t u = true ↔ restr sc (onto sc sd) t = restr sd (onto sc sd) u := by
  rw [onto_eq sc sd hs]
  constructor
  · intro hf
    refine List.map_congr_left fun v hv => ?_
    rw [List.mem_filter] at hv
    exact of_decide_eq_true hf v hv.1 (of_decide_eq_true hv.2)
  · intro he
    refine decide_eq_true fun v hv hv' => ?_
    have hm : v ∈ sc.filter fun x => decide (x ∈ sd) := List.mem_filter.2 ⟨hv, by simpa using hv'⟩
    have := congrArg (fun l => look (sc.filter fun x => decide (x ∈ sd)) l v) he
    simp only [restr] at this
    rwa [look_map hm, look_map hm] at this
end Go.Proofs.YtlmkgghpaaadhaaGreatDoor.G

/- Plain laws of joins, the second part: how many rows there are; what agrees. No program in sight. -/
set_option linter.unusedVariables false
set_option linter.unusedSimpArgs false
namespace Go.Proofs.YtlmkgghpaaadhaaGreatDoor.G
open Go.RowKit Go.Proofs.YtlmkgghpaaadhaaGreatDoorW.PrintWords Go.Proofs.YtlmkgghpaaadhaaGreatDoorW.PrintLast Go.Proofs.YtlmkgghpaaadhaaGreatDoorW.PrintMore

/-! ### how many -/
theorem flatMap_len_le {α β : Type} (L : List α) (f : α → List β) (n : Nat) (h : ∀ x ∈ L, (f x).length ≤ n) : (L.flatMap f).length ≤ L.length * n := by
  induction L with
  | nil => simp
  | cons a L ih =>
    have h1 := h a List.mem_cons_self
    have h2 := ih fun x hx => h x (List.mem_cons_of_mem _ hx)
    rw [List.flatMap_cons, List.length_append, List.length_cons, Nat.succ_mul]
    omega
theorem join_len_le (sc : List Int) (L : List (List Int)) (sd : List Int) (M : List (List Int)) : (joinRows sc L sd M).length ≤ L.length * M.length := by
  unfold joinRows
  refine Nat.le_trans (Pl.sortU_length_le _) (flatMap_len_le L _ M.length fun t _ => ?_)
  rw [List.length_map]
  exact List.length_filter_le _ _
theorem sortU_len {l : List (List Int)} (h : l.Nodup) : (Pl.sortU l).length = l.length :=
  ((List.perm_ext_iff_of_nodup (Pl.sortU_up l).nodup h).2 fun a => Pl.mem_sortU).length_eq
theorem both_back {sc sd : List Int} {L M : List (List Int)} (h : RightP sc L) (h' : RightP sd M) {t u : List Int} (ht : t ∈ L) (hu : u ∈ M) (hf : fits sc sd t u = true) :
    restr (uni sc sd) sc (bothRow sc sd t u) = t ∧ restr (uni sc sd) sd (bothRow sc sd t u) = u := by
  have hf' := of_decide_eq_true hf
  constructor
  · conv => rhs; rw [← look_self h.1.1.nodup (h.2.1 t ht)]
    refine List.map_congr_left fun v hv => ?_
    rw [bothRow, look_map (mem_uni.2 (.inl hv)), if_pos hv]
  · conv => rhs; rw [← look_self h'.1.1.nodup (h'.2.1 u hu)]
    refine List.map_congr_left fun v hv => ?_
    rw [bothRow, look_map (mem_uni.2 (.inr hv))]
    by_cases hvs : v ∈ sc
    · rw [if_pos hvs]; exact hf' v hvs hv
    · rw [if_neg hvs]
theorem join_nodup {sc sd : List Int} {L M : List (List Int)} (h : RightP sc L) (h' : RightP sd M) : (L.flatMap fun t => (M.filter (fits sc sd t)).map (bothRow sc sd t)).Nodup := by
  unfold List.Nodup
  rw [List.pairwise_flatMap]
  constructor
  · intro t ht
    rw [List.pairwise_map]
    refine (List.Pairwise.filter (fits sc sd t) h'.2.2.nodup).imp_of_mem fun {a b} ha hb hne he => hne ?_
    rw [List.mem_filter] at ha hb
    rw [← (both_back h h' ht ha.1 ha.2).2, he, (both_back h h' ht hb.1 hb.2).2]
  · refine h.2.2.nodup.imp_of_mem fun {a b} ha hb hne x hx y hy he => hne ?_
    obtain ⟨u, hu, rfl⟩ := List.mem_map.1 hx
    obtain ⟨v, hv, rfl⟩ := List.mem_map.1 hy
    rw [List.mem_filter] at hu hv
    rw [← (both_back h h' ha hu.1 hu.2).1, he, (both_back h h' hb hv.1 hv.2).1]
/-- How many there are. -/
theorem join_len {sc sd : List Int} {L M : List (List Int)} (h : RightP sc L) (h' : RightP sd M) : (joinRows sc L sd M).length = (L.flatMap fun t => (M.filter (fits sc sd t)).map (bothRow sc sd t)).length := sortU_len (join_nodup h h')
end Go.Proofs.YtlmkgghpaaadhaaGreatDoor.G

/- A tuple's text (join.key): two tuples have one text just if they are one. No program in sight. -/
set_option linter.unusedVariables false
set_option linter.unusedSimpArgs false
namespace Go.Proofs.YtlmkgghpaaadhaaGreatDoor.G
open Go.Lib

def keyText (t : List Int) : List UInt8 := t.flatMap fun n => 32 :: itoa n
def valD (l : List UInt8) : Nat := l.foldl (fun a b => 10 * a + (b.toNat - 48)) 0
theorem valD_snoc (l : List UInt8) (b : UInt8) : valD (l ++ [b]) = 10 * valD l + (b.toNat - 48) := by simp [valD, List.foldl_append]
theorem digit_nat {i : Nat} (h : i < 10) : (UInt8.ofNat (48 + i)).toNat = 48 + i := by
  rw [UInt8.toNat_ofNat']; omega
theorem decDigits_val (u : Nat) : valD (decDigits u) = u ∧ ∀ b ∈ decDigits u, 48 ≤ b.toNat ∧ b.toNat ≤ 57 := by
  induction u using Nat.strongRecOn with
  | _ u ih =>
    rw [decDigits]
    split
    · rename_i h
      refine ⟨?_, fun b hb => ?_⟩
      · show 10 * 0 + ((UInt8.ofNat (48 + u)).toNat - 48) = u
        rw [digit_nat h]; omega
      · rw [List.mem_singleton.1 hb, digit_nat h]; omega
    · rename_i h
      obtain ⟨h1, h2⟩ := ih (u / 10) (by omega)
      have hd := digit_nat (show u % 10 < 10 by omega)
      refine ⟨?_, fun b hb => ?_⟩
      · rw [valD_snoc, h1, hd]; omega
      · rcases List.mem_append.1 hb with e | e
        · exact h2 b e
        · rw [List.mem_singleton.1 e, hd]; omega
theorem decDigits_inj {u v : Nat} (h : decDigits u = decDigits v) : u = v := by
  rw [← (decDigits_val u).1, h, (decDigits_val v).1]
theorem itoa_no32 (n : Int) : ∀ b ∈ itoa n, b ≠ 32 := fun b hb e => by
  subst e
  unfold itoa at hb
  split at hb
  · rcases List.mem_cons.1 hb with e | e
    · exact absurd e (by decide)
    · have h1 := ((decDigits_val _).2 _ e).1
      exact absurd h1 (by decide)
  · have h1 := ((decDigits_val _).2 _ hb).1
    exact absurd h1 (by decide)
theorem no_minus (u : Nat) (l : List UInt8) : decDigits u ≠ 45 :: l := fun e => by
  have h1 := ((decDigits_val u).2 45 (by rw [e]; exact List.mem_cons_self)).1
  exact absurd h1 (by decide)
theorem itoa_inj {n m : Int} (h : itoa n = itoa m) : n = m := by
  unfold itoa at h
  by_cases hn : n < 0
  · rw [if_pos hn] at h
    by_cases hm : m < 0
    · rw [if_pos hm] at h
      have := decDigits_inj (List.cons.inj h).2
      omega
    · rw [if_neg hm] at h
      exact absurd h.symm (no_minus _ _)
  · rw [if_neg hn] at h
    by_cases hm : m < 0
    · rw [if_pos hm] at h
      exact absurd h (no_minus _ _)
    · rw [if_neg hm] at h
      have := decDigits_inj h
      omega
theorem span32 (a r : List UInt8) (ha : ∀ b ∈ a, b ≠ 32) (hr : r = [] ∨ ∃ s, r = 32 :: s) : (a ++ r).takeWhile (fun b => decide (b ≠ 32)) = a ∧ (a ++ r).dropWhile (fun b => decide (b ≠ 32)) = r := by
  induction a with
  | nil =>
    rcases hr with rfl | ⟨s, rfl⟩
    · exact ⟨rfl, rfl⟩
    · exact ⟨rfl, rfl⟩
  | cons x a ih =>
    have hx := ha x List.mem_cons_self
    obtain ⟨h1, h2⟩ := ih fun b hb => ha b (List.mem_cons_of_mem _ hb)
    simp only [List.cons_append]
    rw [List.takeWhile_cons_of_pos (by simpa using hx), List.dropWhile_cons_of_pos (by simpa using hx), h1, h2]
    exact ⟨rfl, rfl⟩
theorem keyText_starts (t : List Int) : keyText t = [] ∨ ∃ s, keyText t = 32 :: s := by
  cases t with
  | nil => exact .inl rfl
  | cons n t => exact .inr ⟨itoa n ++ keyText t, rfl⟩
theorem keyText_inj {t u : List Int} (h : keyText t = keyText u) : t = u := by
  induction t generalizing u with
  | nil =>
    cases u with
    | nil => rfl
    | cons m u => cases h
  | cons n t ih =>
    cases u with
    | nil => cases h
    | cons m u =>
      have h' : itoa n ++ keyText t = itoa m ++ keyText u := (List.cons.inj h).2
      obtain ⟨a1, a2⟩ := span32 (itoa n) (keyText t) (itoa_no32 n) (keyText_starts t)
      obtain ⟨b1, b2⟩ := span32 (itoa m) (keyText u) (itoa_no32 m) (keyText_starts u)
      rw [h'] at a1 a2
      rw [itoa_inj (a1.symm.trans b1), ih (a2.symm.trans b2)]
end Go.Proofs.YtlmkgghpaaadhaaGreatDoor.G

/- What join's code computes is the join: plain laws. No program in sight. -/
set_option linter.unusedVariables false
set_option linter.unusedSimpArgs false
namespace Go.Proofs.YtlmkgghpaaadhaaGreatDoor.G
open Go.RowKit Go.Proofs.YtlmkgghpaaadhaaGreatDoorW.PrintWords Go.Proofs.YtlmkgghpaaadhaaGreatDoorW.PrintLast Go.Proofs.YtlmkgghpaaadhaaGreatDoorW.PrintMore

/-- What both schemes have. -/
def meetS (sa sb : List Int) : List Int := merge false true false sa sb
theorem meet_onto {sa sb : List Int} (h : Rise sb) : meetS sa sb = onto sa sb := by
  unfold meetS onto
  rw [rise_same (uniqI_spec sb).1 h (uniqI_spec sb).2]
/-- The rows of a relation that have a text. -/
def groupOf (sd : List Int) (M : List (List Int)) (vars : List Int) (q : List UInt8) : List (List Int) := M.filter fun u => decide (keyText (pick u (vars.map (idx sd))) = q)
theorem group_take (sd : List Int) (M : List (List Int)) (vars : List Int) (k : Nat) (h : k < M.length) :
    (fun q => groupOf sd (M.take (k + 1)) vars q) = fun q => if q = keyText (pick (M.getD k []) (vars.map (idx sd))) then groupOf sd (M.take k) vars (keyText (pick (M.getD k []) (vars.map (idx sd)))) ++ [M.getD k []] else groupOf sd (M.take k) vars q := by
  funext q
  unfold groupOf
  rw [List.take_succ_eq_append_getElem h, getD_get _ _ h, List.filter_append]
  by_cases e : q = keyText (pick M[k] (vars.map (idx sd)))
  · rw [if_pos e, List.filter_cons_of_pos (by simp [e]), e]; rfl
  · rw [if_neg e, List.filter_cons_of_neg (by simpa using fun e' => e e'.symm)]; simp
/-- One row of the first, with all that go with it. -/
def withRow (sa sb : List Int) (Lb : List (List Int)) (t : List Int) : List (List Int) :=
  (groupOf sb Lb (meetS sa sb) (keyText (pick t ((meetS sa sb).map (idx sa))))).map fun u => pick (t ++ u) ((uni sa sb).map (idx (sa ++ sb)))
def rawJoin (sa : List Int) (La : List (List Int)) (sb : List Int) (Lb : List (List Int)) : List (List Int) := La.flatMap (withRow sa sb Lb)
theorem key_fits {sa sb : List Int} (h : Rise sa) (h' : Rise sb) {t u : List Int} (ht : t.length = sa.length) (hu : u.length = sb.length) :
    decide (keyText (pick u ((meetS sa sb).map (idx sb))) = keyText (pick t ((meetS sa sb).map (idx sa)))) = fits sa sb t u := by
  have s1 : ∀ v ∈ onto sa sb, v ∈ sa := fun v hv => by rw [onto_eq sa sb h] at hv; exact memF hv
  have s2 : ∀ v ∈ onto sa sb, v ∈ sb := fun v hv => by rw [onto_eq sa sb h, List.mem_filter] at hv; exact of_decide_eq_true hv.2
  rw [meet_onto h', pick_look sb u _ hu s2, pick_look sa t _ ht s1]
  rw [Bool.eq_iff_iff, decide_eq_true_eq, fits_iff h h']
  constructor
  · intro e
    exact (keyText_inj e).symm
  · intro e
    show keyText (restr sb (onto sa sb) u) = keyText (restr sa (onto sa sb) t)
    rw [e]
theorem group_fits {sa sb : List Int} {Lb : List (List Int)} (h : Rise sa) (h' : RightP sb Lb) {t : List Int} (ht : t.length = sa.length) :
    groupOf sb Lb (meetS sa sb) (keyText (pick t ((meetS sa sb).map (idx sa)))) = Lb.filter (fits sa sb t) :=
  List.filter_congr fun u hu => key_fits h h'.1.1 ht (h'.2.1 u hu)
theorem idx_append (sa sb : List Int) (v : Int) : idx (sa ++ sb) v = if v ∈ sa then idx sa v else if v ∈ sb then ((sa.length + sb.idxOf v : Nat) : Int) else -1 := by
  by_cases h : v ∈ sa
  · rw [if_pos h, (idx_in h).1, (idx_in (List.mem_append_left sb h)).1, List.idxOf_append, if_pos h]
  · rw [if_neg h]
    by_cases h' : v ∈ sb
    · rw [if_pos h', (idx_in (List.mem_append_right sa h')).1, List.idxOf_append, if_neg h, Nat.add_comm]
    · rw [if_neg h', idx_out (by simp [h, h'])]
theorem rd_left (t u : List Int) (k : Nat) (h : k < t.length) : rd (t ++ u) k = rd t k := by
  rw [rd_get (t ++ u) k (by simp; omega), rd_get t k h, List.getElem_append_left h]
theorem rd_right (t u : List Int) (k : Nat) (h : k < u.length) : rd (t ++ u) ((t.length + k : Nat) : Int) = rd u k := by
  rw [rd_get (t ++ u) (t.length + k) (by simp; omega), rd_get u k h, List.getElem_append_right (by omega)]
  congr 1; omega
theorem pick_both {sa sb : List Int} {t u : List Int} (ht : t.length = sa.length) (hu : u.length = sb.length) : pick (t ++ u) ((uni sa sb).map (idx (sa ++ sb))) = bothRow sa sb t u := by
  rw [pick_look (sa ++ sb) (t ++ u) (uni sa sb) (by simp [ht, hu]) (fun v hv => List.mem_append.2 (mem_uni.1 hv))]
  refine List.map_congr_left fun v hv => ?_
  unfold look
  rw [idx_append]
  by_cases h : v ∈ sa
  · rw [if_pos h, if_pos h, (idx_in h).1, rd_left _ _ _ (by rw [ht]; exact (idx_in h).2)]
  · have h' : v ∈ sb := (mem_uni.1 hv).resolve_left h
    rw [if_neg h, if_neg h, if_pos h', (idx_in h').1, ← ht, rd_right _ _ _ (by rw [hu]; exact (idx_in h').2)]
theorem with_fits {sa sb : List Int} {Lb : List (List Int)} (h : Rise sa) (h' : RightP sb Lb) {t : List Int} (ht : t.length = sa.length) :
    withRow sa sb Lb t = (Lb.filter (fits sa sb t)).map (bothRow sa sb t) := by
  unfold withRow
  rw [group_fits h h' ht]
  exact List.map_congr_left fun u hu => pick_both ht (h'.2.1 u (memF hu))
theorem raw_eq {sa sb : List Int} {La Lb : List (List Int)} (h : RightP sa La) (h' : RightP sb Lb) : rawJoin sa La sb Lb = La.flatMap fun t => (Lb.filter (fits sa sb t)).map (bothRow sa sb t) := by
  have : ∀ M : List (List Int), (∀ t ∈ M, t.length = sa.length) → M.flatMap (withRow sa sb Lb) = M.flatMap fun t => (Lb.filter (fits sa sb t)).map (bothRow sa sb t) := fun M hM => by
    induction M with
    | nil => rfl
    | cons t M ih => rw [List.flatMap_cons, List.flatMap_cons, with_fits h.1.1 h' (hM t List.mem_cons_self), ih fun u hu => hM u (List.mem_cons_of_mem _ hu)]
  exact this La h.2.1
theorem raw_sort {sa sb : List Int} {La Lb : List (List Int)} (h : RightP sa La) (h' : RightP sb Lb) : Pl.sortU (rawJoin sa La sb Lb) = joinRows sa La sb Lb := by rw [raw_eq h h']; rfl
theorem raw_len {sa sb : List Int} {La Lb : List (List Int)} (h : RightP sa La) (h' : RightP sb Lb) : (rawJoin sa La sb Lb).length = (joinRows sa La sb Lb).length := by rw [raw_eq h h', join_len h h']
theorem group_len (sd : List Int) (M : List (List Int)) (vars : List Int) (q : List UInt8) : (groupOf sd M vars q).length ≤ M.length := List.length_filter_le _ _
theorem with_len (sa sb : List Int) (Lb : List (List Int)) (t : List Int) : (withRow sa sb Lb t).length ≤ Lb.length := by
  unfold withRow; rw [List.length_map]; exact group_len _ _ _ _
theorem raw_len_le (sa : List Int) (La : List (List Int)) (sb : List Int) (Lb : List (List Int)) : (rawJoin sa La sb Lb).length ≤ La.length * Lb.length := flatMap_len_le La _ _ fun t _ => with_len sa sb Lb t
theorem pick_len (t ps : List Int) : (pick t ps).length ≤ ps.length := by unfold pick; exact List.length_filterMap_le _ _
theorem pick_mem {t ps : List Int} {x : Int} (h : x ∈ pick t ps) : x ∈ t := by
  unfold pick at h
  obtain ⟨p, _, hp⟩ := List.mem_filterMap.1 h
  split at hp
  · rename_i hh
    have e := Option.some.inj hp
    obtain ⟨k, rfl⟩ : ∃ k : Nat, p = k := ⟨p.toNat, by omega⟩
    rw [← e, rd_get t k (by omega)]
    exact List.getElem_mem _
  · cases hp
/-- Numbers that an int64 may be. -/
def InR (L : List (List Int)) : Prop := ∀ t ∈ L, ∀ x ∈ t, -9223372036854775808 ≤ x ∧ x ≤ 9223372036854775807
end Go.Proofs.YtlmkgghpaaadhaaGreatDoor.G
