/- Several texts of this claim in one. -/
import Derived.Test.YtpimooejnpdlpaaGreatDoorCopied
import Derived.Test.YtpimooejnpdlpaaGreatDoorMP
/- pass.Up$1, pass.Down$1: one relation cut to what goes with another one, in its place. -/
set_option linter.unusedVariables false
set_option linter.unusedSimpArgs false
namespace Go.Proofs.YtpimooejnpdlpaaGreatDoor.G
open Go.RowKit Go.Proofs.YtpimooejnpdlpaaGreatDoorW.PrintWords Go.Proofs.YtpimooejnpdlpaaGreatDoorW.PrintLast Go.Proofs.YtpimooejnpdlpaaGreatDoorW.PrintMore Go.Proofs.YtpimooejnpdlpaaGreatDoor.PRefs

section
variable {w : World} {A : Option Addr} {c : Nat} {sc : List Int} {A' : Option Addr} {c' : Nat} {L : List (List Int)} {B : Option Addr} {d : Nat} {sd : List Int} {B' : Option Addr} {d' : Nat} {M : List (List Int)}
theorem semi_m (h : RelRd w A c sc A' c' L) (ht : Rt sc L) (h' : RelRd w B d sd B' d' M) (ht' : Rt sd M) (htab : Tab w) {R : List (List Int)} (hr : semiRows sc L sd M = R) :
    Calls Tryz.prog 19 #[.agg #[.slice A sc.length c, .slice A' L.length c'], .agg #[.slice B sd.length d, .slice B' M.length d']] w fun e w' => ∃ A2 c2 A3 c3, e = .returned (.agg #[.slice A2 sc.length c2, .slice A3 R.length c3]) ∧ RelM w' w.heap.size (.agg #[.slice A2 sc.length c2, .slice A3 R.length c3]) (sc, R) ∧ Below w.heap.size w w' := by
  have h1 := ht.s
  have h2 := ht'.s
  have h3 := ht.l
  have h4 := ht'.l
  refine (semi_any A c sc A' c' L B d sd B' d' M w h.row h.cap h.rows h'.row h'.cap h'.rows (by omega) (by omega) (by omega) (by omega) (fun x hx => by have := ht.x x hx; omega) ht.i ht'.i htab).mono ?_
  rintro e w' ⟨v, rfl, hv, hb⟩
  rw [semi_eq ht.r ht'.r, hr] at hv
  obtain ⟨s0, s1, rfl, k0, k1⟩ := hv
  obtain ⟨A2, c2, rfl, _, _⟩ := Kd.R_reads k0
  obtain ⟨A3, c3, rfl, _, _⟩ := Kd.N_reads k1
  exact ⟨A2, c2, A3, c3, rfl, ⟨_, _, rfl, k0, k1⟩, hb⟩
end
/-- The cells of a relation that is in. -/
theorem RelsAt.at_ {W : World} {g n : Nat} {cur : Array Value} {l : List S39} (h : RelsAt W g cur n l) {j : Nat} (hj : j < l.length) :
    ∃ A c D d, cur[j * 2]! = .slice A (sch l j).length c ∧ cur[j * 2 + 1]! = .slice D (fam l j).length d ∧ W.cell? ⟨g, j * 2, none⟩ = some (.slice A (sch l j).length c) ∧ W.cell? ⟨g, j * 2 + 1, none⟩ = some (.slice D (fam l j).length d) ∧ RelRd W A c (sch l j) D d (fam l j) := by
  have hlen := h.len
  obtain ⟨A, c, A', c', e, hr⟩ := (h.rel j hj).rd
  injection e with e
  injection e with e
  injection e with e1 e2
  injection e2 with e2 _
  have q0 := h.cell (j * 2) (by omega)
  have q1 := h.cell (j * 2 + 1) (by omega)
  rw [e1] at q0
  rw [e2] at q1
  exact ⟨A, c, A', c', e1, e2, q0, q1, hr⟩
set_option maxHeartbeats 4000000 in
set_option maxRecDepth 100000 in
theorem up1_any (x y b g n : Nat) (cur : Array Value) (l : List S39) (W : World) (hbox : W.heap[b]? = some (.cells #[.slice (some ⟨g, 0, none⟩) n n] 28 (0, 0))) (hR : RelsAt W g cur n l) (hn : l.length = n) (hx : x < n) (hy : y < n) (hm : n ≤ 1000000) (hrt : ∀ k, k < l.length → Rt (sch l k) (fam l k)) (htab : Tab W) :
    Calls Tryz.prog 18 #[.int .i64 (y : Int), .int .i64 (x : Int), .pointer (some ⟨b, 0, none⟩)] W fun e w' => e = .returned (.tuple #[]) ∧ ∃ cur', RelsAt w' g cur' n (semiAt l x y) ∧ But W g w' := by
  have hXt := hrt x (by omega)
  have hYt := hrt y (by omega)
  obtain ⟨Ax, cx, Dx, dx, ex0, ex1, x0, x1, hrx⟩ := hR.at_ (j := x) (by omega)
  obtain ⟨Ay, cy, Dy, dy, ey0, ey1, y0, y1, hry⟩ := hR.at_ (j := y) (by omega)
  have hbc := cell_of_blk1 hbox
  have hxl : (x : Int) < (n : Int) := by omega
  have hyl : (y : Int) < (n : Int) := by omega
  have hturn := fun (W' : World) (cur' : Array Value) (u v : Value) (h : RelsAt W' g cur' n l) => h.turn (x := u) (y := v) (a := x) (b := y) (by omega)
  have HTN := Aside0.mk hturn
  have HR := Aside0.mk (And.intro hR htab)
  have HX := Aside0.mk (And.intro hrx (And.intro hry (And.intro hXt hYt)))
  have hdr : Below W.heap.size W W.drew := below_drew (Below.refl _ _)
  have c0 := (hdr.cell (World.block_lt_of_cell? W _ hbc)).trans hbc
  have c1 := (hdr.cell (World.block_lt_of_cell? W _ x0)).trans x0
  have c2 := (hdr.cell (World.block_lt_of_cell? W _ x1)).trans x1
  have c3 := (hdr.cell (World.block_lt_of_cell? W _ y0)).trans y0
  have c4 := (hdr.cell (World.block_lt_of_cell? W _ y1)).trans y1
  clear hR htab hrx hry hXt hYt hturn ex0 ex1 ey0 ey1 hbc x0 x1 y0 y1 hrt hbox
  obtain ⟨R, hR⟩ : ∃ R, semiRows (sch l x) (fam l x) (sch l y) (fam l y) = R := ⟨_, rfl⟩
  rw [hR] at HTN
  have HRR := Aside0.mk hR
  clear hR
  generalize sch l x = SX at *
  generalize fam l x = LX at *
  generalize sch l y = SY at *
  generalize fam l y = LY at *
  go_enter Tryz.func18, Tryz.ntmps18
  refine start_ (n := 13) (S := fun w' => w'.cell? ⟨b, 0, none⟩ = some (.slice (some ⟨g, 0, none⟩) n n) ∧ w'.cell? ⟨g, x * 2, none⟩ = some (.slice Ax SX.length cx) ∧ w'.cell? ⟨g, x * 2 + 1, none⟩ = some (.slice Dx LX.length dx) ∧ w'.cell? ⟨g, y * 2, none⟩ = some (.slice Ay SY.length cy) ∧ w'.cell? ⟨g, y * 2 + 1, none⟩ = some (.slice Dy LY.length dy) ∧ Below W.heap.size W w') (ds := [12]) #[false, false, false, false, false, false, false, false, false, false, false, false, false] (by kernel_rfl) rfl rfl ⟨c0, c1, c2, c3, c4, hdr⟩ (fun hHeld => ?_)
  generalize W.drew = w17 at *
  refine pure_ (i := 1) (N := some 6) (v := ?_) (a' := ?_) #[false, true, false, false, false, false, false, false, false, false, false, false, false] rfl rfl (by kernel_rfl) (fun _ _ _ h => h) (Or.inl ⟨by rfl, ?_⟩) ?_ ?_
  rotate_left
  · intro w'
    go_simp
    with_reducible rfl
  rotate_left
  · simp only [Act.put, List.setIfInBounds_toArray, List.set_cons_zero, List.set_cons_succ, i64_w, i32_w]
    rfl
  refine pure_ (i := 3) (N := some 8) (v := ?_) (a' := ?_) #[false, true, false, true, false, false, false, false, false, false, false, false, false] rfl rfl (by kernel_rfl) (fun _ _ _ h => h) (Or.inl ⟨by rfl, ?_⟩) ?_ ?_
  rotate_left
  · intro w'
    go_simp
    with_reducible rfl
  rotate_left
  · simp only [Act.put, List.setIfInBounds_toArray, List.set_cons_zero, List.set_cons_succ, i64_w, i32_w]
    rfl
  refine pure_ (i := 7) (N := some 12) (v := ?_) (a' := ?_) #[false, true, false, true, false, false, false, true, false, false, false, false, false] rfl rfl (by kernel_rfl) (fun _ _ _ h => h) (Or.inl ⟨by rfl, ?_⟩) ?_ ?_
  rotate_left
  · intro w'
    go_simp
    with_reducible rfl
  rotate_left
  · simp only [Act.put, List.setIfInBounds_toArray, List.set_cons_zero, List.set_cons_succ, i64_w, i32_w]
    rfl
  refine take_ (i := 0) (N := some 5) (v := ?_) (a' := ?_) #[true, true, false, true, false, false, false, true, false, false, false, false, false] rfl rfl (by kernel_rfl) (fun _ _ _ h => h) (Or.inl ⟨by rfl, ?_⟩) hHeld ?_ ?_
  rotate_left
  · rintro w' ⟨s0, s1, s2, s3, s4, _⟩
    go_simp
    with_reducible rfl
  rotate_left
  · simp only [Act.put, List.setIfInBounds_toArray, List.set_cons_zero, List.set_cons_succ, i64_w, i32_w]
    rfl
  refine take_ (i := 2) (N := some 7) (v := ?_) (a' := ?_) #[true, true, true, true, false, false, false, true, false, false, false, false, false] rfl rfl (by kernel_rfl) (fun _ _ _ h => h) (Or.inl ⟨by rfl, ?_⟩) hHeld ?_ ?_
  rotate_left
  · rintro w' ⟨s0, s1, s2, s3, s4, _⟩
    go_simp
    with_reducible rfl
  rotate_left
  · simp only [Act.put, List.setIfInBounds_toArray, List.set_cons_zero, List.set_cons_succ, i64_w, i32_w]
    rfl
  refine take_ (i := 6) (N := some 11) (v := ?_) (a' := ?_) #[true, true, true, true, false, false, true, true, false, false, false, false, false] rfl rfl (by kernel_rfl) (fun _ _ _ h => h) (Or.inl ⟨by rfl, ?_⟩) hHeld ?_ ?_
  rotate_left
  · rintro w' ⟨s0, s1, s2, s3, s4, _⟩
    go_simp
    with_reducible rfl
  rotate_left
  · simp only [Act.put, List.setIfInBounds_toArray, List.set_cons_zero, List.set_cons_succ, i64_w, i32_w]
    rfl
  refine pure_ (i := 4) (N := some 9) (v := ?_) (a' := ?_) #[true, true, true, true, true, false, true, true, false, false, false, false, false] rfl rfl (by kernel_rfl) (fun _ _ _ h => h) (Or.inl ⟨by rfl, ?_⟩) ?_ ?_
  rotate_left
  · intro w'
    go_simp
    with_reducible rfl
  rotate_left
  · simp only [Act.put, List.setIfInBounds_toArray, List.set_cons_zero, List.set_cons_succ, i64_w, i32_w]
    rfl
  refine pure_ (i := 8) (N := some 13) (v := ?_) (a' := ?_) #[true, true, true, true, true, false, true, true, true, false, false, false, false] rfl rfl (by kernel_rfl) (fun _ _ _ h => h) (Or.inl ⟨by rfl, ?_⟩) ?_ ?_
  rotate_left
  · intro w'
    go_simp
    with_reducible rfl
  rotate_left
  · simp only [Act.put, List.setIfInBounds_toArray, List.set_cons_zero, List.set_cons_succ, i64_w, i32_w]
    rfl
  refine take_ (i := 5) (N := some 10) (v := ?_) (a' := ?_) #[true, true, true, true, true, true, true, true, true, false, false, false, false] rfl rfl (by kernel_rfl) (fun _ _ _ h => h) (Or.inl ⟨by rfl, ?_⟩) hHeld ?_ ?_
  rotate_left
  · rintro w' ⟨s0, s1, s2, s3, s4, _⟩
    go_simp
    with_reducible rfl
  rotate_left
  · simp only [Act.put, List.setIfInBounds_toArray, List.set_cons_zero, List.set_cons_succ, i64_w, i32_w]
    rfl
  refine take_ (i := 9) (N := some 14) (v := ?_) (a' := ?_) #[true, true, true, true, true, true, true, true, true, true, false, false, false] rfl rfl (by kernel_rfl) (fun _ _ _ h => h) (Or.inl ⟨by rfl, ?_⟩) hHeld ?_ ?_
  rotate_left
  · rintro w' ⟨s0, s1, s2, s3, s4, _⟩
    go_simp
    with_reducible rfl
  rotate_left
  · simp only [Act.put, List.setIfInBounds_toArray, List.set_cons_zero, List.set_cons_succ, i64_w, i32_w]
    rfl
  refine one_ (i := 10) (N := some 15) #[true, true, true, true, true, true, true, true, true, true, true, false, false] rfl rfl (by kernel_rfl) (by decide) (fun K hK => ?_)
  refine goes_ Tryz.func19 (by kernel_rfl) rfl #[.agg #[.slice Ax SX.length cx, .slice Dx LX.length dx], .agg #[.slice Ay SY.length cy, .slice Dy LY.length dy]] (by rfl) rfl rfl (by (try simp only [List.map_toArray, List.map_cons, List.map_nil]); first | done | rfl) ?_
  refine (semi_m (HX.out.1.step hdr) HX.out.2.2.1 (HX.out.2.1.step hdr) HX.out.2.2.2 (HR.out.2.step hdr) HRR.out).mono ?_
  rintro e w' ⟨A2, c2', A3, c3', rfl, hM, hb⟩
  refine ⟨_, rfl, ?_⟩
  have hbW := below_then hdr hdr.size hb
  have hst := fun {p : Addr} {v : Value} (h : w17.cell? p = some v) => (hb.cell (World.block_lt_of_cell? w17 _ h)).trans h
  have HRW := Aside0.mk (HR.out.1.keep hbW)
  have HMM := Aside0.mk hM
  refine hK.out _ _ ⟨hst c0, hst c1, hst c2, hst c3, hst c4, hbW⟩ (fun hHeld => ?_)
  clear hK K
  refine norm_ (a' := ?_) ?_ ?_
  rotate_left
  · show Act.put _ (some 15) _ = _
    simp only [Act.put, List.setIfInBounds_toArray, List.set_cons_zero, List.set_cons_succ, i64_w, i32_w]
    rfl
  refine pure_ (i := 11) (N := some 16) (v := ?_) (a' := ?_) #[true, true, true, true, true, true, true, true, true, true, true, true, false] rfl rfl (by kernel_rfl) (fun _ _ _ h => h) (Or.inl ⟨by rfl, ?_⟩) ?_ ?_
  rotate_left
  · intro w'
    go_simp
    with_reducible rfl
  rotate_left
  · simp only [Act.put, List.setIfInBounds_toArray, List.set_cons_zero, List.set_cons_succ, i64_w, i32_w]
    rfl
  refine last_ (i := 12) (N := none) #[true, true, true, true, true, true, true, true, true, true, true, true, true] rfl rfl (by kernel_rfl) (by decide) (fun K hK => ?_)
  have p0 := HRW.out.cell (x * 2) (by omega)
  have p1 := HRW.out.cell (x * 2 + 1) (by omega)
  have p2 := HRW.out.frozen (x * 2)
  have p3 := HRW.out.frozen (x * 2 + 1)
  refine skip_ (w1 := ?_) (by rfl) rfl ?_ ?_
  rotate_left
  · go_simp
    rfl
  refine hK.out _ _ ?_
  clear hK K
  refine done_ (by kernel_rfl) ?_
  go_end0
  refine ⟨rfl, _, HTN.out _ cur _ _ HRW.out (HMM.out.lower (by have := HR.out.1.lt; have := hdr.size; omega)), ((But.of g hbW).set _ _).set _ _⟩
set_option maxHeartbeats 4000000 in
set_option maxRecDepth 100000 in
theorem down1_any (x y b g n : Nat) (cur : Array Value) (l : List S39) (W : World) (hbox : W.heap[b]? = some (.cells #[.slice (some ⟨g, 0, none⟩) n n] 28 (0, 0))) (hR : RelsAt W g cur n l) (hn : l.length = n) (hx : x < n) (hy : y < n) (hm : n ≤ 1000000) (hrt : ∀ k, k < l.length → Rt (sch l k) (fam l k)) (htab : Tab W) :
    Calls Tryz.prog 20 #[.int .i64 (x : Int), .int .i64 (y : Int), .pointer (some ⟨b, 0, none⟩)] W fun e w' => e = .returned (.tuple #[]) ∧ ∃ cur', RelsAt w' g cur' n (semiAt l x y) ∧ But W g w' := by
  have hXt := hrt x (by omega)
  have hYt := hrt y (by omega)
  obtain ⟨Ax, cx, Dx, dx, ex0, ex1, x0, x1, hrx⟩ := hR.at_ (j := x) (by omega)
  obtain ⟨Ay, cy, Dy, dy, ey0, ey1, y0, y1, hry⟩ := hR.at_ (j := y) (by omega)
  have hbc := cell_of_blk1 hbox
  have hxl : (x : Int) < (n : Int) := by omega
  have hyl : (y : Int) < (n : Int) := by omega
  have hturn := fun (W' : World) (cur' : Array Value) (u v : Value) (h : RelsAt W' g cur' n l) => h.turn (x := u) (y := v) (a := x) (b := y) (by omega)
  have HTN := Aside0.mk hturn
  have HR := Aside0.mk (And.intro hR htab)
  have HX := Aside0.mk (And.intro hrx (And.intro hry (And.intro hXt hYt)))
  have hdr : Below W.heap.size W W.drew := below_drew (Below.refl _ _)
  have c0 := (hdr.cell (World.block_lt_of_cell? W _ hbc)).trans hbc
  have c1 := (hdr.cell (World.block_lt_of_cell? W _ x0)).trans x0
  have c2 := (hdr.cell (World.block_lt_of_cell? W _ x1)).trans x1
  have c3 := (hdr.cell (World.block_lt_of_cell? W _ y0)).trans y0
  have c4 := (hdr.cell (World.block_lt_of_cell? W _ y1)).trans y1
  clear hR htab hrx hry hXt hYt hturn ex0 ex1 ey0 ey1 hbc x0 x1 y0 y1 hrt hbox
  obtain ⟨R, hR⟩ : ∃ R, semiRows (sch l x) (fam l x) (sch l y) (fam l y) = R := ⟨_, rfl⟩
  rw [hR] at HTN
  have HRR := Aside0.mk hR
  clear hR
  generalize sch l x = SX at *
  generalize fam l x = LX at *
  generalize sch l y = SY at *
  generalize fam l y = LY at *
  go_enter Tryz.func20, Tryz.ntmps20
  refine start_ (n := 13) (S := fun w' => w'.cell? ⟨b, 0, none⟩ = some (.slice (some ⟨g, 0, none⟩) n n) ∧ w'.cell? ⟨g, x * 2, none⟩ = some (.slice Ax SX.length cx) ∧ w'.cell? ⟨g, x * 2 + 1, none⟩ = some (.slice Dx LX.length dx) ∧ w'.cell? ⟨g, y * 2, none⟩ = some (.slice Ay SY.length cy) ∧ w'.cell? ⟨g, y * 2 + 1, none⟩ = some (.slice Dy LY.length dy) ∧ Below W.heap.size W w') (ds := [12]) #[false, false, false, false, false, false, false, false, false, false, false, false, false] (by kernel_rfl) rfl rfl ⟨c0, c1, c2, c3, c4, hdr⟩ (fun hHeld => ?_)
  generalize W.drew = w17 at *
  refine pure_ (i := 1) (N := some 6) (v := ?_) (a' := ?_) #[false, true, false, false, false, false, false, false, false, false, false, false, false] rfl rfl (by kernel_rfl) (fun _ _ _ h => h) (Or.inl ⟨by rfl, ?_⟩) ?_ ?_
  rotate_left
  · intro w'
    go_simp
    with_reducible rfl
  rotate_left
  · simp only [Act.put, List.setIfInBounds_toArray, List.set_cons_zero, List.set_cons_succ, i64_w, i32_w]
    rfl
  refine pure_ (i := 3) (N := some 8) (v := ?_) (a' := ?_) #[false, true, false, true, false, false, false, false, false, false, false, false, false] rfl rfl (by kernel_rfl) (fun _ _ _ h => h) (Or.inl ⟨by rfl, ?_⟩) ?_ ?_
  rotate_left
  · intro w'
    go_simp
    with_reducible rfl
  rotate_left
  · simp only [Act.put, List.setIfInBounds_toArray, List.set_cons_zero, List.set_cons_succ, i64_w, i32_w]
    rfl
  refine pure_ (i := 7) (N := some 12) (v := ?_) (a' := ?_) #[false, true, false, true, false, false, false, true, false, false, false, false, false] rfl rfl (by kernel_rfl) (fun _ _ _ h => h) (Or.inl ⟨by rfl, ?_⟩) ?_ ?_
  rotate_left
  · intro w'
    go_simp
    with_reducible rfl
  rotate_left
  · simp only [Act.put, List.setIfInBounds_toArray, List.set_cons_zero, List.set_cons_succ, i64_w, i32_w]
    rfl
  refine take_ (i := 0) (N := some 5) (v := ?_) (a' := ?_) #[true, true, false, true, false, false, false, true, false, false, false, false, false] rfl rfl (by kernel_rfl) (fun _ _ _ h => h) (Or.inl ⟨by rfl, ?_⟩) hHeld ?_ ?_
  rotate_left
  · rintro w' ⟨s0, s1, s2, s3, s4, _⟩
    go_simp
    with_reducible rfl
  rotate_left
  · simp only [Act.put, List.setIfInBounds_toArray, List.set_cons_zero, List.set_cons_succ, i64_w, i32_w]
    rfl
  refine take_ (i := 2) (N := some 7) (v := ?_) (a' := ?_) #[true, true, true, true, false, false, false, true, false, false, false, false, false] rfl rfl (by kernel_rfl) (fun _ _ _ h => h) (Or.inl ⟨by rfl, ?_⟩) hHeld ?_ ?_
  rotate_left
  · rintro w' ⟨s0, s1, s2, s3, s4, _⟩
    go_simp
    with_reducible rfl
  rotate_left
  · simp only [Act.put, List.setIfInBounds_toArray, List.set_cons_zero, List.set_cons_succ, i64_w, i32_w]
    rfl
  refine take_ (i := 6) (N := some 11) (v := ?_) (a' := ?_) #[true, true, true, true, false, false, true, true, false, false, false, false, false] rfl rfl (by kernel_rfl) (fun _ _ _ h => h) (Or.inl ⟨by rfl, ?_⟩) hHeld ?_ ?_
  rotate_left
  · rintro w' ⟨s0, s1, s2, s3, s4, _⟩
    go_simp
    with_reducible rfl
  rotate_left
  · simp only [Act.put, List.setIfInBounds_toArray, List.set_cons_zero, List.set_cons_succ, i64_w, i32_w]
    rfl
  refine pure_ (i := 4) (N := some 9) (v := ?_) (a' := ?_) #[true, true, true, true, true, false, true, true, false, false, false, false, false] rfl rfl (by kernel_rfl) (fun _ _ _ h => h) (Or.inl ⟨by rfl, ?_⟩) ?_ ?_
  rotate_left
  · intro w'
    go_simp
    with_reducible rfl
  rotate_left
  · simp only [Act.put, List.setIfInBounds_toArray, List.set_cons_zero, List.set_cons_succ, i64_w, i32_w]
    rfl
  refine pure_ (i := 8) (N := some 13) (v := ?_) (a' := ?_) #[true, true, true, true, true, false, true, true, true, false, false, false, false] rfl rfl (by kernel_rfl) (fun _ _ _ h => h) (Or.inl ⟨by rfl, ?_⟩) ?_ ?_
  rotate_left
  · intro w'
    go_simp
    with_reducible rfl
  rotate_left
  · simp only [Act.put, List.setIfInBounds_toArray, List.set_cons_zero, List.set_cons_succ, i64_w, i32_w]
    rfl
  refine take_ (i := 5) (N := some 10) (v := ?_) (a' := ?_) #[true, true, true, true, true, true, true, true, true, false, false, false, false] rfl rfl (by kernel_rfl) (fun _ _ _ h => h) (Or.inl ⟨by rfl, ?_⟩) hHeld ?_ ?_
  rotate_left
  · rintro w' ⟨s0, s1, s2, s3, s4, _⟩
    go_simp
    with_reducible rfl
  rotate_left
  · simp only [Act.put, List.setIfInBounds_toArray, List.set_cons_zero, List.set_cons_succ, i64_w, i32_w]
    rfl
  refine take_ (i := 9) (N := some 14) (v := ?_) (a' := ?_) #[true, true, true, true, true, true, true, true, true, true, false, false, false] rfl rfl (by kernel_rfl) (fun _ _ _ h => h) (Or.inl ⟨by rfl, ?_⟩) hHeld ?_ ?_
  rotate_left
  · rintro w' ⟨s0, s1, s2, s3, s4, _⟩
    go_simp
    with_reducible rfl
  rotate_left
  · simp only [Act.put, List.setIfInBounds_toArray, List.set_cons_zero, List.set_cons_succ, i64_w, i32_w]
    rfl
  refine one_ (i := 10) (N := some 15) #[true, true, true, true, true, true, true, true, true, true, true, false, false] rfl rfl (by kernel_rfl) (by decide) (fun K hK => ?_)
  refine goes_ Tryz.func19 (by kernel_rfl) rfl #[.agg #[.slice Ax SX.length cx, .slice Dx LX.length dx], .agg #[.slice Ay SY.length cy, .slice Dy LY.length dy]] (by rfl) rfl rfl (by (try simp only [List.map_toArray, List.map_cons, List.map_nil]); first | done | rfl) ?_
  refine (semi_m (HX.out.1.step hdr) HX.out.2.2.1 (HX.out.2.1.step hdr) HX.out.2.2.2 (HR.out.2.step hdr) HRR.out).mono ?_
  rintro e w' ⟨A2, c2', A3, c3', rfl, hM, hb⟩
  refine ⟨_, rfl, ?_⟩
  have hbW := below_then hdr hdr.size hb
  have hst := fun {p : Addr} {v : Value} (h : w17.cell? p = some v) => (hb.cell (World.block_lt_of_cell? w17 _ h)).trans h
  have HRW := Aside0.mk (HR.out.1.keep hbW)
  have HMM := Aside0.mk hM
  refine hK.out _ _ ⟨hst c0, hst c1, hst c2, hst c3, hst c4, hbW⟩ (fun hHeld => ?_)
  clear hK K
  refine norm_ (a' := ?_) ?_ ?_
  rotate_left
  · show Act.put _ (some 15) _ = _
    simp only [Act.put, List.setIfInBounds_toArray, List.set_cons_zero, List.set_cons_succ, i64_w, i32_w]
    rfl
  refine pure_ (i := 11) (N := some 16) (v := ?_) (a' := ?_) #[true, true, true, true, true, true, true, true, true, true, true, true, false] rfl rfl (by kernel_rfl) (fun _ _ _ h => h) (Or.inl ⟨by rfl, ?_⟩) ?_ ?_
  rotate_left
  · intro w'
    go_simp
    with_reducible rfl
  rotate_left
  · simp only [Act.put, List.setIfInBounds_toArray, List.set_cons_zero, List.set_cons_succ, i64_w, i32_w]
    rfl
  refine last_ (i := 12) (N := none) #[true, true, true, true, true, true, true, true, true, true, true, true, true] rfl rfl (by kernel_rfl) (by decide) (fun K hK => ?_)
  have p0 := HRW.out.cell (x * 2) (by omega)
  have p1 := HRW.out.cell (x * 2 + 1) (by omega)
  have p2 := HRW.out.frozen (x * 2)
  have p3 := HRW.out.frozen (x * 2 + 1)
  refine skip_ (w1 := ?_) (by rfl) rfl ?_ ?_
  rotate_left
  · go_simp
    rfl
  refine hK.out _ _ ?_
  clear hK K
  refine done_ (by kernel_rfl) ?_
  go_end0
  refine ⟨rfl, _, HTN.out _ cur _ _ HRW.out (HMM.out.lower (by have := HR.out.1.lt; have := hdr.size; omega)), ((But.of g hbW).set _ _).set _ _⟩
end Go.Proofs.YtpimooejnpdlpaaGreatDoor.G

/- pass.Settled$1: whether two agree, and all ahead of them. -/
set_option linter.unusedVariables false
set_option linter.unusedSimpArgs false
namespace Go.Proofs.YtpimooejnpdlpaaGreatDoor.G
open Go.RowKit Go.Proofs.YtpimooejnpdlpaaGreatDoorW.PrintWords Go.Proofs.YtpimooejnpdlpaaGreatDoorW.PrintLast Go.Proofs.YtpimooejnpdlpaaGreatDoorW.PrintMore Go.Proofs.YtpimooejnpdlpaaGreatDoor.PRefs

def agreeB (l : List S39) (x y : Nat) : Bool := decide (projRel (sch l x) (fam l x) (sch l y) = projRel (sch l y) (fam l y) (sch l x))
theorem relAt_rd (l : List S39) (k : Nat) (h : k < l.length) : rd_T39 l (k : Int) = relAt l k := by rw [getD_T l k h, relAt_get l k h]
set_option maxHeartbeats 4000000 in
set_option maxRecDepth 100000 in
theorem settled1_any (x y b1 b2 : Nat) (u : Bool) (A : Option Addr) (c : Nat) (l : List S39) (w W : World) (hb1 : W.heap[b1]? = some (.cells #[.bool u] 4 (0, 0))) (hb2 : W.heap[b2]? = some (.cells #[.slice A l.length c] 28 (0, 0))) (hne : b1 ≠ b2) (hR : Kd.C k39 W A l.length l) (hx : x < l.length) (hy : y < l.length) (hm : l.length ≤ 1000000) (hrt : ∀ k, k < l.length → Rt (sch l k) (fam l k)) :
    Calls Tryz.prog 22 #[.int .i64 (x : Int), .int .i64 (y : Int), .pointer (some ⟨b1, 0, none⟩), .pointer (some ⟨b2, 0, none⟩)] W fun e w' => e = .returned (.tuple #[]) ∧ w'.heap[b1]? = some (.cells #[.bool (u && agreeB l x y)] 4 (0, 0)) ∧ But W b1 w' := by
  have hdr : Below W.heap.size W W.drew := below_drew (Below.refl _ _)
  have hc1 := cell_of_blk1 hb1
  have hc2 := cell_of_blk1 hb2
  have c0 := (hdr.cell (World.block_lt_of_cell? W _ hc1)).trans hc1
  have c1 := (hdr.cell (World.block_lt_of_cell? W _ hc2)).trans hc2
  have HK := Aside0.mk (And.intro hb1 (And.intro hb2 hR))
  have hlt1 := (Array.getElem?_eq_some_iff.1 hb1).1
  cases u
  · clear hb1 hb2 hR hc1 hc2
    go_enter Tryz.func22, Tryz.ntmps22
    refine start_ (n := 13) (S := fun w' => w'.cell? ⟨b1, 0, none⟩ = some (.bool false) ∧ w'.cell? ⟨b2, 0, none⟩ = some (.slice A l.length c) ∧ Below W.heap.size W w') (ds := [12]) #[false, false, false, false, false, false, false, false, false, false, false, false, false] (by kernel_rfl) rfl rfl ⟨c0, c1, hdr⟩ (fun hHeld => ?_)
    generalize W.drew = w17 at *
    refine take_ (i := 0) (N := some 6) (v := ?_) (a' := ?_) #[true, false, false, false, false, false, false, false, false, false, false, false, false] rfl rfl (by kernel_rfl) (fun _ _ _ h => h) (Or.inl ⟨by rfl, ?_⟩) hHeld ?_ ?_
    rotate_left
    · rintro w' ⟨s0, s1, _⟩
      go_simp
      with_reducible rfl
    rotate_left
    · simp only [Act.put, List.setIfInBounds_toArray, List.set_cons_zero, List.set_cons_succ, i64_w, i32_w]
      rfl
    refine pure_ (i := 1) (N := some 7) (v := ?_) (a' := ?_) #[true, true, false, false, false, false, false, false, false, false, false, false, false] rfl rfl (by kernel_rfl) (fun _ _ _ h => h) (Or.inl ⟨by rfl, ?_⟩) ?_ ?_
    rotate_left
    · intro w'
      go_simp
      with_reducible rfl
    rotate_left
    · simp only [Act.put, List.setIfInBounds_toArray, List.set_cons_zero, List.set_cons_succ, i64_w, i32_w]
      rfl
    refine pure_ (i := 2) (N := some 8) (v := undef) (a' := ?_) #[true, true, true, false, false, false, false, false, false, false, false, false, false] rfl rfl (by kernel_rfl) (fun _ _ _ h => h) (Or.inr ⟨by rfl, rfl⟩) (by simp only [Act.put, List.setIfInBounds_toArray, List.set_cons_zero, List.set_cons_succ, i64_w, i32_w]; rfl) ?_
    refine pure_ (i := 3) (N := some 9) (v := undef) (a' := ?_) #[true, true, true, true, false, false, false, false, false, false, false, false, false] rfl rfl (by kernel_rfl) (fun _ _ _ h => h) (Or.inr ⟨by rfl, rfl⟩) (by simp only [Act.put, List.setIfInBounds_toArray, List.set_cons_zero, List.set_cons_succ, i64_w, i32_w]; rfl) ?_
    refine pure_ (i := 4) (N := some 10) (v := undef) (a' := ?_) #[true, true, true, true, true, false, false, false, false, false, false, false, false] rfl rfl (by kernel_rfl) (fun _ _ _ h => h) (Or.inr ⟨by rfl, rfl⟩) (by simp only [Act.put, List.setIfInBounds_toArray, List.set_cons_zero, List.set_cons_succ, i64_w, i32_w]; rfl) ?_
    refine pure_ (i := 5) (N := some 11) (v := undef) (a' := ?_) #[true, true, true, true, true, true, false, false, false, false, false, false, false] rfl rfl (by kernel_rfl) (fun _ _ _ h => h) (Or.inr ⟨by rfl, rfl⟩) (by simp only [Act.put, List.setIfInBounds_toArray, List.set_cons_zero, List.set_cons_succ, i64_w, i32_w]; rfl) ?_
    refine pure_ (i := 6) (N := some 12) (v := undef) (a' := ?_) #[true, true, true, true, true, true, true, false, false, false, false, false, false] rfl rfl (by kernel_rfl) (fun _ _ _ h => h) (Or.inr ⟨by rfl, rfl⟩) (by simp only [Act.put, List.setIfInBounds_toArray, List.set_cons_zero, List.set_cons_succ, i64_w, i32_w]; rfl) ?_
    refine pure_ (i := 7) (N := some 13) (v := undef) (a' := ?_) #[true, true, true, true, true, true, true, true, false, false, false, false, false] rfl rfl (by kernel_rfl) (fun _ _ _ h => h) (Or.inr ⟨by rfl, rfl⟩) (by simp only [Act.put, List.setIfInBounds_toArray, List.set_cons_zero, List.set_cons_succ, i64_w, i32_w]; rfl) ?_
    refine pure_ (i := 8) (N := some 14) (v := undef) (a' := ?_) #[true, true, true, true, true, true, true, true, true, false, false, false, false] rfl rfl (by kernel_rfl) (fun _ _ _ h => h) (Or.inr ⟨by rfl, rfl⟩) (by simp only [Act.put, List.setIfInBounds_toArray, List.set_cons_zero, List.set_cons_succ, i64_w, i32_w]; rfl) ?_
    refine pure_ (i := 9) (N := some 15) (v := undef) (a' := ?_) #[true, true, true, true, true, true, true, true, true, true, false, false, false] rfl rfl (by kernel_rfl) (fun _ _ _ h => h) (Or.inr ⟨by rfl, rfl⟩) (by simp only [Act.put, List.setIfInBounds_toArray, List.set_cons_zero, List.set_cons_succ, i64_w, i32_w]; rfl) ?_
    refine pure_ (i := 10) (N := some 16) (v := undef) (a' := ?_) #[true, true, true, true, true, true, true, true, true, true, true, false, false] rfl rfl (by kernel_rfl) (fun _ _ _ h => h) (Or.inr ⟨by rfl, rfl⟩) (by simp only [Act.put, List.setIfInBounds_toArray, List.set_cons_zero, List.set_cons_succ, i64_w, i32_w]; rfl) ?_
    refine pure_ (i := 11) (N := some 17) (v := ?_) (a' := ?_) #[true, true, true, true, true, true, true, true, true, true, true, true, false] rfl rfl (by kernel_rfl) (fun _ _ _ h => h) (Or.inl ⟨by rfl, ?_⟩) ?_ ?_
    rotate_left
    · intro w'
      go_simp
      with_reducible rfl
    rotate_left
    · simp only [Act.put, List.setIfInBounds_toArray, List.set_cons_zero, List.set_cons_succ, i64_w, i32_w]
      rfl
    refine last_ (i := 12) (N := none) #[true, true, true, true, true, true, true, true, true, true, true, true, true] rfl rfl (by kernel_rfl) (by decide) (fun K hK => ?_)
    have hk := (hdr.block _ hlt1).trans HK.out.1
    have p0 := cell_of_blk1 hk
    have p1 := frozen_of_blk (i := 0) hk
    have HKK := Aside0.mk hk
    clear hk
    refine skip_ (w1 := ?_) (by rfl) rfl ?_ ?_
    rotate_left
    · go_simp
      rfl
    refine hK.out _ _ ?_
    clear hK K
    refine done_ (by kernel_rfl) ?_
    go_end0
    exact ⟨rfl, blk1_set HKK.out _, (But.of b1 hdr).set 0 _⟩
  · obtain ⟨ad, A0, n0, A1, n1, eA, x0, x1, hl0, hr0, hl1, hr1⟩ := at_T39 hR (x : Int) (by omega) (by omega)
    obtain ⟨ad', B0, m0, B1, m1, eB, y0, y1, hk0, hs0, hk1, hs1⟩ := at_T39 hR (y : Int) (by omega) (by omega)
    have eAB := eA.symm.trans eB
    injection eAB with eAB
    subst eAB eA
    simp only [Int.toNat_natCast, relAt_rd l x hx, relAt_rd l y hy] at x0 x1 hl0 hr0 hl1 hr1 y0 y1 hk0 hs0 hk1 hs1
    have c2 := (hdr.cell (World.block_lt_of_cell? W _ x0)).trans x0
    have c3 := (hdr.cell (World.block_lt_of_cell? W _ x1)).trans x1
    have c4 := (hdr.cell (World.block_lt_of_cell? W _ y0)).trans y0
    have c5 := (hdr.cell (World.block_lt_of_cell? W _ y1)).trans y1
    have HX := Aside0.mk (And.intro (show RelRd W A0 n0 (sch l x) A1 n1 (fam l x) from ⟨hr0, hl0, hr1, hl1⟩) (And.intro (show RelRd W B0 m0 (sch l y) B1 m1 (fam l y) from ⟨hs0, hk0, hs1, hk1⟩) (And.intro (hrt x hx) (hrt y hy))))
    have hxl : (x : Int) < (l.length : Int) := by omega
    have hyl : (y : Int) < (l.length : Int) := by omega
    obtain ⟨b, hb⟩ : ∃ b, agreeB l x y = b := ⟨_, rfl⟩
    rw [hb]
    have HB := Aside0.mk (show decide (projRel (sch l x) (fam l x) (sch l y) = projRel (sch l y) (fam l y) (sch l x)) = b from hb)
    clear hb hb1 hb2 hR hc1 hc2 x0 x1 hl0 hr0 hl1 hr1 y0 y1 hk0 hs0 hk1 hs1 eB hrt
    simp only [show ∀ k, (relAt l k).f0 = sch l k from fun _ => rfl, show ∀ k, (relAt l k).f1 = fam l k from fun _ => rfl] at c2 c3 c4 c5
    obtain ⟨n, hn⟩ : ∃ n, n = l.length := ⟨_, rfl⟩
    rw [← hn] at c1 hxl hyl hm
    generalize sch l x = SX at *
    generalize fam l x = LX at *
    generalize sch l y = SY at *
    generalize fam l y = LY at *
    go_enter Tryz.func22, Tryz.ntmps22
    refine start_ (n := 13) (S := fun w' => w'.cell? ⟨b1, 0, none⟩ = some (.bool true) ∧ w'.cell? ⟨b2, 0, none⟩ = some (.slice (some ad) n c) ∧ w'.cell? (ad.add (x * 2)) = some (.slice A0 SX.length n0) ∧ w'.cell? ⟨(ad.add (x * 2)).block, (ad.add (x * 2)).off + 1, none⟩ = some (.slice A1 LX.length n1) ∧ w'.cell? (ad.add (y * 2)) = some (.slice B0 SY.length m0) ∧ w'.cell? ⟨(ad.add (y * 2)).block, (ad.add (y * 2)).off + 1, none⟩ = some (.slice B1 LY.length m1) ∧ Below W.heap.size W w') (ds := [12]) #[false, false, false, false, false, false, false, false, false, false, false, false, false] (by kernel_rfl) rfl rfl ⟨c0, c1, c2, c3, c4, c5, hdr⟩ (fun hHeld => ?_)
    generalize W.drew = w17 at *
    refine take_ (i := 0) (N := some 6) (v := ?_) (a' := ?_) #[true, false, false, false, false, false, false, false, false, false, false, false, false] rfl rfl (by kernel_rfl) (fun _ _ _ h => h) (Or.inl ⟨by rfl, ?_⟩) hHeld ?_ ?_
    rotate_left
    · rintro w' ⟨s0, s1, s2, s3, s4, s5, _⟩
      go_simp
      with_reducible rfl
    rotate_left
    · simp only [Act.put, List.setIfInBounds_toArray, List.set_cons_zero, List.set_cons_succ, i64_w, i32_w]
      rfl
    refine pure_ (i := 1) (N := some 7) (v := ?_) (a' := ?_) #[true, true, false, false, false, false, false, false, false, false, false, false, false] rfl rfl (by kernel_rfl) (fun _ _ _ h => h) (Or.inl ⟨by rfl, ?_⟩) ?_ ?_
    rotate_left
    · intro w'
      go_simp
      with_reducible rfl
    rotate_left
    · simp only [Act.put, List.setIfInBounds_toArray, List.set_cons_zero, List.set_cons_succ, i64_w, i32_w]
      rfl
    refine pure_ (i := 3) (N := some 9) (v := ?_) (a' := ?_) #[true, true, false, true, false, false, false, false, false, false, false, false, false] rfl rfl (by kernel_rfl) (fun _ _ _ h => h) (Or.inl ⟨by rfl, ?_⟩) ?_ ?_
    rotate_left
    · intro w'
      go_simp
      with_reducible rfl
    rotate_left
    · simp only [Act.put, List.setIfInBounds_toArray, List.set_cons_zero, List.set_cons_succ, i64_w, i32_w]
      rfl
    refine pure_ (i := 7) (N := some 13) (v := ?_) (a' := ?_) #[true, true, false, true, false, false, false, true, false, false, false, false, false] rfl rfl (by kernel_rfl) (fun _ _ _ h => h) (Or.inl ⟨by rfl, ?_⟩) ?_ ?_
    rotate_left
    · intro w'
      go_simp
      with_reducible rfl
    rotate_left
    · simp only [Act.put, List.setIfInBounds_toArray, List.set_cons_zero, List.set_cons_succ, i64_w, i32_w]
      rfl
    refine take_ (i := 2) (N := some 8) (v := ?_) (a' := ?_) #[true, true, true, true, false, false, false, true, false, false, false, false, false] rfl rfl (by kernel_rfl) (fun _ _ _ h => h) (Or.inl ⟨by rfl, ?_⟩) hHeld ?_ ?_
    rotate_left
    · rintro w' ⟨s0, s1, s2, s3, s4, s5, _⟩
      go_simp
      with_reducible rfl
    rotate_left
    · simp only [Act.put, List.setIfInBounds_toArray, List.set_cons_zero, List.set_cons_succ, i64_w, i32_w]
      rfl
    refine take_ (i := 6) (N := some 12) (v := ?_) (a' := ?_) #[true, true, true, true, false, false, true, true, false, false, false, false, false] rfl rfl (by kernel_rfl) (fun _ _ _ h => h) (Or.inl ⟨by rfl, ?_⟩) hHeld ?_ ?_
    rotate_left
    · rintro w' ⟨s0, s1, s2, s3, s4, s5, _⟩
      go_simp
      with_reducible rfl
    rotate_left
    · simp only [Act.put, List.setIfInBounds_toArray, List.set_cons_zero, List.set_cons_succ, i64_w, i32_w]
      rfl
    refine pure_ (i := 4) (N := some 10) (v := ?_) (a' := ?_) #[true, true, true, true, true, false, true, true, false, false, false, false, false] rfl rfl (by kernel_rfl) (fun _ _ _ h => h) (Or.inl ⟨by rfl, ?_⟩) ?_ ?_
    rotate_left
    · intro w'
      go_simp
      with_reducible rfl
    rotate_left
    · simp only [Act.put, List.setIfInBounds_toArray, List.set_cons_zero, List.set_cons_succ, i64_w, i32_w]
      rfl
    refine pure_ (i := 8) (N := some 14) (v := ?_) (a' := ?_) #[true, true, true, true, true, false, true, true, true, false, false, false, false] rfl rfl (by kernel_rfl) (fun _ _ _ h => h) (Or.inl ⟨by rfl, ?_⟩) ?_ ?_
    rotate_left
    · intro w'
      go_simp
      with_reducible rfl
    rotate_left
    · simp only [Act.put, List.setIfInBounds_toArray, List.set_cons_zero, List.set_cons_succ, i64_w, i32_w]
      rfl
    refine take_ (i := 5) (N := some 11) (v := ?_) (a' := ?_) #[true, true, true, true, true, true, true, true, true, false, false, false, false] rfl rfl (by kernel_rfl) (fun _ _ _ h => h) (Or.inl ⟨by rfl, ?_⟩) hHeld ?_ ?_
    rotate_left
    · rintro w' ⟨s0, s1, s2, s3, s4, s5, _⟩
      go_simp
      with_reducible rfl
    rotate_left
    · simp only [Act.put, List.setIfInBounds_toArray, List.set_cons_zero, List.set_cons_succ, i64_w, i32_w]
      rfl
    refine take_ (i := 9) (N := some 15) (v := ?_) (a' := ?_) #[true, true, true, true, true, true, true, true, true, true, false, false, false] rfl rfl (by kernel_rfl) (fun _ _ _ h => h) (Or.inl ⟨by rfl, ?_⟩) hHeld ?_ ?_
    rotate_left
    · rintro w' ⟨s0, s1, s2, s3, s4, s5, _⟩
      go_simp
      with_reducible rfl
    rotate_left
    · simp only [Act.put, List.setIfInBounds_toArray, List.set_cons_zero, List.set_cons_succ, i64_w, i32_w]
      rfl
    refine one_ (i := 10) (N := some 16) #[true, true, true, true, true, true, true, true, true, true, true, false, false] rfl rfl (by kernel_rfl) (by decide) (fun K hK => ?_)
    refine goes_ Tryz.func23 (by kernel_rfl) rfl #[.agg #[.slice A0 SX.length n0, .slice A1 LX.length n1], .agg #[.slice B0 SY.length m0, .slice B1 LY.length m1]] (by rfl) rfl rfl (by (try simp only [List.map_toArray, List.map_cons, List.map_nil]); first | done | rfl) ?_
    refine (agree_rt (HX.out.1.step hdr) HX.out.2.2.1 (HX.out.2.1.step hdr) HX.out.2.2.2 b HB.out).mono ?_
    rintro e w' ⟨rfl, hb⟩
    refine ⟨_, rfl, ?_⟩
    have hbW := below_then hdr hdr.size hb
    have hst := fun {p : Addr} {v : Value} (h : w17.cell? p = some v) => (hb.cell (World.block_lt_of_cell? w17 _ h)).trans h
    have hk := (hbW.block _ hlt1).trans HK.out.1
    have HKK := Aside0.mk hk
    clear hk
    refine hK.out _ _ ⟨hst c0, hst c1, hst c2, hst c3, hst c4, hst c5, hbW⟩ (fun hHeld => ?_)
    clear hK K
    refine norm_ (a' := ?_) ?_ ?_
    rotate_left
    · show Act.put _ (some 16) _ = _
      simp only [Act.put, List.setIfInBounds_toArray, List.set_cons_zero, List.set_cons_succ, i64_w, i32_w]
      rfl
    refine pure_ (i := 11) (N := some 17) (v := ?_) (a' := ?_) #[true, true, true, true, true, true, true, true, true, true, true, true, false] rfl rfl (by kernel_rfl) (fun _ _ _ h => h) (Or.inl ⟨by rfl, ?_⟩) ?_ ?_
    rotate_left
    · intro w'
      go_simp
      with_reducible rfl
    rotate_left
    · simp only [Act.put, List.setIfInBounds_toArray, List.set_cons_zero, List.set_cons_succ, i64_w, i32_w]
      rfl
    refine last_ (i := 12) (N := none) #[true, true, true, true, true, true, true, true, true, true, true, true, true] rfl rfl (by kernel_rfl) (by decide) (fun K hK => ?_)
    have p0 := cell_of_blk1 HKK.out
    have p1 := frozen_of_blk (i := 0) HKK.out
    refine skip_ (w1 := ?_) (by rfl) rfl ?_ ?_
    rotate_left
    · go_simp
      rfl
    refine hK.out _ _ ?_
    clear hK K
    refine done_ (by kernel_rfl) ?_
    go_end0
    exact ⟨rfl, blk1_set HKK.out _, (But.of b1 hbW).set 0 _⟩
end Go.Proofs.YtpimooejnpdlpaaGreatDoor.G

/- pass.edges: each bag but the root, and its parent, in an order; what is done there by a contract. -/
set_option linter.unusedVariables false
set_option linter.unusedSimpArgs false
namespace Go.Proofs.YtpimooejnpdlpaaGreatDoor.G
open Go.RowKit Go.Proofs.YtpimooejnpdlpaaGreatDoorW.PrintWords Go.Proofs.YtpimooejnpdlpaaGreatDoorW.PrintLast Go.Proofs.YtpimooejnpdlpaaGreatDoorW.PrintMore Go.Proofs.YtpimooejnpdlpaaGreatDoor.PRefs

/-- What edges holds between two rounds. -/
structure EdgeRel (w W : World) (g : Nat) (cs : Array Value) (v : Value) (ord : List Int) (Inv : Nat → World → Prop) (k : Nat) : Prop where
  inv : Inv k W
  but : But w g W
  row : Kd.R KI 3 W (w.heap.size + 1) AnyB v ord
  box : W.heap[w.heap.size]? = some (.cells cs 27 (0, 0))
theorem EdgeRel.step {w W W' : World} {g : Nat} {cs : Array Value} {v : Value} {ord : List Int} {Inv : Nat → World → Prop} {k k' : Nat} (h : EdgeRel w W g cs v ord Inv k) (hg : g < w.heap.size) (hi : Inv k' W') (hb : But W g W') : EdgeRel w W' g cs v ord Inv k' := by
  refine ⟨hi, ⟨hb.os.trans h.but.os, hb.tape.trans h.but.tape, hb.output.trans h.but.output, Nat.le_trans h.but.size hb.size, fun q hq hne => (hb.block q (Nat.lt_of_lt_of_le hq h.but.size) hne).trans (h.but.block q hq hne)⟩, ?_, (hb.block _ (Array.getElem?_eq_some_iff.1 h.box).1 (by omega)).trans h.box⟩
  exact Kd.R_mono (Kd.R_step (Kd.R_bound h.row) (fun q hq hlt => hb.block q hlt (by have := hq.2.1; omega))) (fun _ _ => trivial)
set_option maxHeartbeats 4000000 in
set_option maxRecDepth 100000 in
theorem edges_up (A0 : Option Addr) (n0 c0 : Nat) (A1 : Option Addr) (c1 : Nat) (P : List Int) (b0 : Nat) (g : Nat) (ord : List Int) (Inv : Nat → World → Prop) (w : World) (hg : g < w.heap.size) (hm : P.length ≤ 1000000) (hP : ∀ W, But w g W → Kd.C KI W A1 P.length P) (hord : afterI P = ord) (hlen : ord.length ≤ 1000001) (hrange : ∀ k, k < ord.length → 0 ≤ rd ord (k : Int) ∧ rd ord (k : Int) < (P.length : Int))
    (h0 : Inv 0 w) (hkeep : ∀ k W W', Inv k W → Below W.heap.size W W' → Inv k W') (hskip : ∀ k W, k < ord.length → ¬ 0 ≤ rd P (rd ord (k : Int)) → Inv k W → Inv (k + 1) W)
    (hstep : ∀ k W, k < ord.length → 0 ≤ rd P (rd ord (k : Int)) → Inv k W → But w g W → Calls Tryz.prog 18 #[.int .i64 (rd ord (k : Int)), .int .i64 (rd P (rd ord (k : Int))), .pointer (some ⟨b0, 0, none⟩)] W fun e w' => e = .returned (.tuple #[]) ∧ Inv (k + 1) w' ∧ But W g w') :
    Calls Tryz.prog 17 #[.agg #[.slice A0 n0 c0, .slice A1 P.length c1], .bool false, .func (.func 18) #[] #[.pointer (some ⟨b0, 0, none⟩)]] w fun e w' => e = .returned (.tuple #[]) ∧ Inv ord.length w' ∧ But w g w' := by
  have HH := Aside0.mk (And.intro hP (And.intro hrange (And.intro h0 (And.intro hkeep (And.intro hskip hstep)))))
  have HO := Aside0.mk hord
  clear hP hrange h0 hkeep hskip hstep
  have eg := enters_of Tryz.func18 (by kernel_rfl) rfl
  have hbe := below_alloc (Below.refl w.heap.size w) (.cells #[.slice A0 n0 c0, .slice A1 P.length c1] 27)
  have hk := heap_alloc_new w (.cells #[.slice A0 n0 c0, .slice A1 P.length c1] 27)
  have HB0 := Aside0.mk (And.intro hbe hk)
  have q0 := blk2_c0 hk
  have q1 := blk2_c1 hk
  have hsz : (w.alloc (.cells #[.slice A0 n0 c0, .slice A1 P.length c1] 27)).heap.size = w.heap.size + 1 := by simp
  have haf := after_any A0 n0 c0 A1 c1 P (w.alloc (.cells #[.slice A0 n0 c0, .slice A1 P.length c1] 27)) (Kd.C_below (HH.out.1 w (But.of g (Below.refl _ _))) hbe) hm
  rw [hsz] at haf
  have hal : (afterI P).length ≤ 1000001 := by have := congrArg List.length HO.out;  omega
  clear hbe hk hord
  go_enter Tryz.func17, Tryz.ntmps17
  go_wp2_with ((go_at_call 31; refine haf.mono ?_; rintro e w2 ⟨v, rfl, hv, hb⟩; obtain ⟨Al, cl, rfl, _, _⟩ := Kd.R_reads hv; have HL := Aside0.mk (And.intro hv (And.intro (HB0.out.1.trans (hb.mono (Nat.le_succ _))) ((hb.block _ (by omega)).trans HB0.out.2))); have hbs := hb.size; clear hv hb))
  clear q0 q1 haf hsz
  rw [HO.out] at HL ⊢
  have HR : Aside0 (EdgeRel w w2 g #[.slice A0 n0 c0, .slice A1 P.length c1] (.slice Al ord.length cl) ord Inv 0) := ⟨HH.out.2.2.2.1 0 w _ HH.out.2.2.1 HL.out.2.1, But.of g HL.out.2.1, HL.out.1, HL.out.2.2⟩
  clear HL HB0
  go_loopw [17] (fun i W => ∃ (k : Nat), k ≤ ord.length ∧ i = .int .i64 k ∧ Aside0 (EdgeRel w W g #[.slice A0 n0 c0, .slice A1 P.length c1] (.slice Al ord.length cl) ord Inv k)) (fun i _ => ord.length - (intOf i).toNat)
  case atStart => exact ⟨0, Nat.zero_le _, rfl, HR⟩
  case round =>
    clear HR
    obtain ⟨k, hk, rfl, HR⟩ := hrel
    by_cases hlt : k < ord.length
    · have hkl : (k : Int) < (ord.length : Int) := by omega
      obtain ⟨A', c', e', _, hC⟩ := Kd.R_reads HR.out.row
      injection e' with e1 e2 e3
      subst e1 e3
      obtain ⟨ad, rfl, hx⟩ := Kd.at_int hC (k : Int) (by omega) (by omega)
      simp only [Int.toNat_natCast] at hx
      obtain ⟨h1, h2⟩ := HH.out.2.1 k hlt
      have hCP := HH.out.1 _ HR.out.but
      obtain ⟨ad2, rfl, hy⟩ := Kd.at_int hCP (rd ord (k : Int)) h1 h2
      have q1 := blk2_c1 HR.out.box
      have HS := Aside0.mk (And.intro (HH.out.2.2.2.2.1 k wr hlt) (fun h => HH.out.2.2.2.2.2 k wr hlt h HR.out.inv HR.out.but))
      obtain ⟨i, hi⟩ : ∃ i, i = rd ord (k : Int) := ⟨_, rfl⟩
      rw [← hi] at HS hx hy h1 h2
      obtain ⟨p, hp⟩ : ∃ p, p = rd P i := ⟨_, rfl⟩
      rw [← hp] at HS hy
      clear hC hCP hi hp
      by_cases hp0 : 0 ≤ p
      · have hpb : decide (0 ≤ p) = true := decide_eq_true hp0
        go_wp2_with (go_at_call 18; refine (HS.out.2 hp0).mono ?_; rintro e w4 ⟨rfl, hi4, hb4⟩; have HR4 := Aside0.mk (HR.out.step hg hi4 hb4); clear hi4 hb4)
        go_roundw
        case measure => simp [intOf]; omega
        case rel => exact ⟨k + 1, by omega, by go_num, HR4⟩
      · have hpb : decide (0 ≤ p) = false := decide_eq_false hp0
        go_wp2
        go_roundw
        case measure => simp [intOf]; omega
        case rel => exact ⟨k + 1, by omega, by go_num, ⟨HR.out.step hg (HS.out.1 (by omega) HR.out.inv) (But.of g (Below.refl _ _))⟩⟩
    · have hke : k = ord.length := by omega
      subst hke
      go_wp2
      go_end0
      exact ⟨rfl, HR.out.inv, HR.out.but⟩
set_option maxHeartbeats 4000000 in
set_option maxRecDepth 100000 in
theorem edges_down (A0 : Option Addr) (n0 c0 : Nat) (A1 : Option Addr) (c1 : Nat) (P : List Int) (b0 : Nat) (g : Nat) (ord : List Int) (Inv : Nat → World → Prop) (w : World) (hg : g < w.heap.size) (hm : P.length ≤ 1000000) (hP : ∀ W, But w g W → Kd.C KI W A1 P.length P) (hord : (afterI P).reverse = ord) (hlen : ord.length ≤ 1000001) (hrange : ∀ k, k < ord.length → 0 ≤ rd ord (k : Int) ∧ rd ord (k : Int) < (P.length : Int))
    (h0 : Inv 0 w) (hkeep : ∀ k W W', Inv k W → Below W.heap.size W W' → Inv k W') (hskip : ∀ k W, k < ord.length → ¬ 0 ≤ rd P (rd ord (k : Int)) → Inv k W → Inv (k + 1) W)
    (hstep : ∀ k W, k < ord.length → 0 ≤ rd P (rd ord (k : Int)) → Inv k W → But w g W → Calls Tryz.prog 20 #[.int .i64 (rd ord (k : Int)), .int .i64 (rd P (rd ord (k : Int))), .pointer (some ⟨b0, 0, none⟩)] W fun e w' => e = .returned (.tuple #[]) ∧ Inv (k + 1) w' ∧ But W g w') :
    Calls Tryz.prog 17 #[.agg #[.slice A0 n0 c0, .slice A1 P.length c1], .bool true, .func (.func 20) #[] #[.pointer (some ⟨b0, 0, none⟩)]] w fun e w' => e = .returned (.tuple #[]) ∧ Inv ord.length w' ∧ But w g w' := by
  have HH := Aside0.mk (And.intro hP (And.intro hrange (And.intro h0 (And.intro hkeep (And.intro hskip hstep)))))
  have HO := Aside0.mk hord
  clear hP hrange h0 hkeep hskip hstep
  have eg := enters_of Tryz.func20 (by kernel_rfl) rfl
  have hbe := below_alloc (Below.refl w.heap.size w) (.cells #[.slice A0 n0 c0, .slice A1 P.length c1] 27)
  have hk := heap_alloc_new w (.cells #[.slice A0 n0 c0, .slice A1 P.length c1] 27)
  have HB0 := Aside0.mk (And.intro hbe hk)
  have q0 := blk2_c0 hk
  have q1 := blk2_c1 hk
  have hsz : (w.alloc (.cells #[.slice A0 n0 c0, .slice A1 P.length c1] 27)).heap.size = w.heap.size + 1 := by simp
  have haf := after_any A0 n0 c0 A1 c1 P (w.alloc (.cells #[.slice A0 n0 c0, .slice A1 P.length c1] 27)) (Kd.C_below (HH.out.1 w (But.of g (Below.refl _ _))) hbe) hm
  rw [hsz] at haf
  have hal : (afterI P).length ≤ 1000001 := by have := congrArg List.length HO.out; rw [List.length_reverse] at this; omega
  clear hbe hk hord
  go_enter Tryz.func17, Tryz.ntmps17
  go_wp2_with (first
    | (have hgd := HL0; clear hgd; go_at_call 32; refine (reverseI_any (w.heap.size + 1) _ (afterI P) _ HL0.out.1 (by omega)).mono ?_; rintro e w3 ⟨rfl, hv3, hb3⟩; have HL := Aside0.mk (And.intro hv3 (And.intro (HL0.out.2.1.trans (hb3.mono (by omega))) ((hb3.block _ (by omega)).trans HL0.out.2.2))); have hb3s := hb3.size; clear hv3 hb3)
    | (go_at_call 31; refine haf.mono ?_; rintro e w2 ⟨v, rfl, hv, hb⟩; obtain ⟨Al, cl, rfl, _, _⟩ := Kd.R_reads hv; have HL0 := Aside0.mk (And.intro hv (And.intro (HB0.out.1.trans (hb.mono (Nat.le_succ _))) ((hb.block _ (by omega)).trans HB0.out.2))); have hbs := hb.size; clear hv hb))
  clear q0 q1 haf hsz
  have hrl : ord.length = (afterI P).length := by rw [← HO.out, List.length_reverse]
  rw [HO.out, ← hrl] at HL
  rw [← hrl]
  clear hrl
  have HR : Aside0 (EdgeRel w w3 g #[.slice A0 n0 c0, .slice A1 P.length c1] (.slice Al ord.length cl) ord Inv 0) := ⟨HH.out.2.2.2.1 0 w _ HH.out.2.2.1 HL.out.2.1, But.of g HL.out.2.1, HL.out.1, HL.out.2.2⟩
  clear HL HB0
  go_loopw [17] (fun i W => ∃ (k : Nat), k ≤ ord.length ∧ i = .int .i64 k ∧ Aside0 (EdgeRel w W g #[.slice A0 n0 c0, .slice A1 P.length c1] (.slice Al ord.length cl) ord Inv k)) (fun i _ => ord.length - (intOf i).toNat)
  case atStart => exact ⟨0, Nat.zero_le _, rfl, HR⟩
  case round =>
    clear HR
    obtain ⟨k, hk, rfl, HR⟩ := hrel
    by_cases hlt : k < ord.length
    · have hkl : (k : Int) < (ord.length : Int) := by omega
      obtain ⟨A', c', e', _, hC⟩ := Kd.R_reads HR.out.row
      injection e' with e1 e2 e3
      subst e1 e3
      obtain ⟨ad, rfl, hx⟩ := Kd.at_int hC (k : Int) (by omega) (by omega)
      simp only [Int.toNat_natCast] at hx
      obtain ⟨h1, h2⟩ := HH.out.2.1 k hlt
      have hCP := HH.out.1 _ HR.out.but
      obtain ⟨ad2, rfl, hy⟩ := Kd.at_int hCP (rd ord (k : Int)) h1 h2
      have q1 := blk2_c1 HR.out.box
      have HS := Aside0.mk (And.intro (HH.out.2.2.2.2.1 k wr hlt) (fun h => HH.out.2.2.2.2.2 k wr hlt h HR.out.inv HR.out.but))
      obtain ⟨i, hi⟩ : ∃ i, i = rd ord (k : Int) := ⟨_, rfl⟩
      rw [← hi] at HS hx hy h1 h2
      obtain ⟨p, hp⟩ : ∃ p, p = rd P i := ⟨_, rfl⟩
      rw [← hp] at HS hy
      clear hC hCP hi hp
      by_cases hp0 : 0 ≤ p
      · have hpb : decide (0 ≤ p) = true := decide_eq_true hp0
        go_wp2_with (go_at_call 20; refine (HS.out.2 hp0).mono ?_; rintro e w4 ⟨rfl, hi4, hb4⟩; have HR4 := Aside0.mk (HR.out.step hg hi4 hb4); clear hi4 hb4)
        go_roundw
        case measure => simp [intOf]; omega
        case rel => exact ⟨k + 1, by omega, by go_num, HR4⟩
      · have hpb : decide (0 ≤ p) = false := decide_eq_false hp0
        go_wp2
        go_roundw
        case measure => simp [intOf]; omega
        case rel => exact ⟨k + 1, by omega, by go_num, ⟨HR.out.step hg (HS.out.1 (by omega) HR.out.inv) (But.of g (Below.refl _ _))⟩⟩
    · have hke : k = ord.length := by omega
      subst hke
      go_wp2
      go_end0
      exact ⟨rfl, HR.out.inv, HR.out.but⟩
set_option maxHeartbeats 4000000 in
set_option maxRecDepth 100000 in
theorem edges_settled (A0 : Option Addr) (n0 c0 : Nat) (A1 : Option Addr) (c1 : Nat) (P : List Int) (b0 : Nat) (b1 : Nat) (g : Nat) (ord : List Int) (Inv : Nat → World → Prop) (w : World) (hg : g < w.heap.size) (hm : P.length ≤ 1000000) (hP : ∀ W, But w g W → Kd.C KI W A1 P.length P) (hord : afterI P = ord) (hlen : ord.length ≤ 1000001) (hrange : ∀ k, k < ord.length → 0 ≤ rd ord (k : Int) ∧ rd ord (k : Int) < (P.length : Int))
    (h0 : Inv 0 w) (hkeep : ∀ k W W', Inv k W → Below W.heap.size W W' → Inv k W') (hskip : ∀ k W, k < ord.length → ¬ 0 ≤ rd P (rd ord (k : Int)) → Inv k W → Inv (k + 1) W)
    (hstep : ∀ k W, k < ord.length → 0 ≤ rd P (rd ord (k : Int)) → Inv k W → But w g W → Calls Tryz.prog 22 #[.int .i64 (rd ord (k : Int)), .int .i64 (rd P (rd ord (k : Int))), .pointer (some ⟨b0, 0, none⟩), .pointer (some ⟨b1, 0, none⟩)] W fun e w' => e = .returned (.tuple #[]) ∧ Inv (k + 1) w' ∧ But W g w') :
    Calls Tryz.prog 17 #[.agg #[.slice A0 n0 c0, .slice A1 P.length c1], .bool false, .func (.func 22) #[] #[.pointer (some ⟨b0, 0, none⟩), .pointer (some ⟨b1, 0, none⟩)]] w fun e w' => e = .returned (.tuple #[]) ∧ Inv ord.length w' ∧ But w g w' := by
  have HH := Aside0.mk (And.intro hP (And.intro hrange (And.intro h0 (And.intro hkeep (And.intro hskip hstep)))))
  have HO := Aside0.mk hord
  clear hP hrange h0 hkeep hskip hstep
  have eg := enters_of Tryz.func22 (by kernel_rfl) rfl
  have hbe := below_alloc (Below.refl w.heap.size w) (.cells #[.slice A0 n0 c0, .slice A1 P.length c1] 27)
  have hk := heap_alloc_new w (.cells #[.slice A0 n0 c0, .slice A1 P.length c1] 27)
  have HB0 := Aside0.mk (And.intro hbe hk)
  have q0 := blk2_c0 hk
  have q1 := blk2_c1 hk
  have hsz : (w.alloc (.cells #[.slice A0 n0 c0, .slice A1 P.length c1] 27)).heap.size = w.heap.size + 1 := by simp
  have haf := after_any A0 n0 c0 A1 c1 P (w.alloc (.cells #[.slice A0 n0 c0, .slice A1 P.length c1] 27)) (Kd.C_below (HH.out.1 w (But.of g (Below.refl _ _))) hbe) hm
  rw [hsz] at haf
  have hal : (afterI P).length ≤ 1000001 := by have := congrArg List.length HO.out;  omega
  clear hbe hk hord
  go_enter Tryz.func17, Tryz.ntmps17
  go_wp2_with ((go_at_call 31; refine haf.mono ?_; rintro e w2 ⟨v, rfl, hv, hb⟩; obtain ⟨Al, cl, rfl, _, _⟩ := Kd.R_reads hv; have HL := Aside0.mk (And.intro hv (And.intro (HB0.out.1.trans (hb.mono (Nat.le_succ _))) ((hb.block _ (by omega)).trans HB0.out.2))); have hbs := hb.size; clear hv hb))
  clear q0 q1 haf hsz
  rw [HO.out] at HL ⊢
  have HR : Aside0 (EdgeRel w w2 g #[.slice A0 n0 c0, .slice A1 P.length c1] (.slice Al ord.length cl) ord Inv 0) := ⟨HH.out.2.2.2.1 0 w _ HH.out.2.2.1 HL.out.2.1, But.of g HL.out.2.1, HL.out.1, HL.out.2.2⟩
  clear HL HB0
  go_loopw [17] (fun i W => ∃ (k : Nat), k ≤ ord.length ∧ i = .int .i64 k ∧ Aside0 (EdgeRel w W g #[.slice A0 n0 c0, .slice A1 P.length c1] (.slice Al ord.length cl) ord Inv k)) (fun i _ => ord.length - (intOf i).toNat)
  case atStart => exact ⟨0, Nat.zero_le _, rfl, HR⟩
  case round =>
    clear HR
    obtain ⟨k, hk, rfl, HR⟩ := hrel
    by_cases hlt : k < ord.length
    · have hkl : (k : Int) < (ord.length : Int) := by omega
      obtain ⟨A', c', e', _, hC⟩ := Kd.R_reads HR.out.row
      injection e' with e1 e2 e3
      subst e1 e3
      obtain ⟨ad, rfl, hx⟩ := Kd.at_int hC (k : Int) (by omega) (by omega)
      simp only [Int.toNat_natCast] at hx
      obtain ⟨h1, h2⟩ := HH.out.2.1 k hlt
      have hCP := HH.out.1 _ HR.out.but
      obtain ⟨ad2, rfl, hy⟩ := Kd.at_int hCP (rd ord (k : Int)) h1 h2
      have q1 := blk2_c1 HR.out.box
      have HS := Aside0.mk (And.intro (HH.out.2.2.2.2.1 k wr hlt) (fun h => HH.out.2.2.2.2.2 k wr hlt h HR.out.inv HR.out.but))
      obtain ⟨i, hi⟩ : ∃ i, i = rd ord (k : Int) := ⟨_, rfl⟩
      rw [← hi] at HS hx hy h1 h2
      obtain ⟨p, hp⟩ : ∃ p, p = rd P i := ⟨_, rfl⟩
      rw [← hp] at HS hy
      clear hC hCP hi hp
      by_cases hp0 : 0 ≤ p
      · have hpb : decide (0 ≤ p) = true := decide_eq_true hp0
        go_wp2_with (go_at_call 22; refine (HS.out.2 hp0).mono ?_; rintro e w4 ⟨rfl, hi4, hb4⟩; have HR4 := Aside0.mk (HR.out.step hg hi4 hb4); clear hi4 hb4)
        go_roundw
        case measure => simp [intOf]; omega
        case rel => exact ⟨k + 1, by omega, by go_num, HR4⟩
      · have hpb : decide (0 ≤ p) = false := decide_eq_false hp0
        go_wp2
        go_roundw
        case measure => simp [intOf]; omega
        case rel => exact ⟨k + 1, by omega, by go_num, ⟨HR.out.step hg (HS.out.1 (by omega) HR.out.inv) (But.of g (Below.refl _ _))⟩⟩
    · have hke : k = ord.length := by omega
      subst hke
      go_wp2
      go_end0
      exact ⟨rfl, HR.out.inv, HR.out.but⟩
end Go.Proofs.YtpimooejnpdlpaaGreatDoor.G
