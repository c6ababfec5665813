import Derived.Test.YtbijfhmpafjceaaK4
set_option linter.unusedVariables false
set_option linter.unusedSimpArgs false
namespace Go.Proofs.Ytbijfhmpafjceaa.E
open Go.RowKit Go.Proofs.YtbijfhmpafjceaaW.PrintWords Go.Proofs.YtbijfhmpafjceaaW.PrintMore Go.Proofs.Ytbijfhmpafjceaa.PFlatKept

/-! The document's examples. -/
def exT : List Int := [7, 0, 7]
def exA : List S39 := [⟨⟨-5, 5⟩, [2, 1, 2]⟩]
theorem Rules_at (W : World) : Calls Try.prog 26 #[] W fun e W' => ∃ A0 c0 A1 c1, e = .returned (.agg #[.slice A0 3 c0, .slice A1 1 c1]) ∧ Kd.C (Kd.int .i64) W' A0 exT.length exT ∧ exT.length ≤ c0 ∧ Kd.C k39 W' A1 exA.length exA ∧ exA.length ≤ c1 ∧ Below W.heap.size W W' := by
  refine (cobblelaw07_Rules.calls exT exA W rfl).mono ?_
  rintro e W' ⟨v0, v1, rfl, h0, h1, hb⟩
  obtain ⟨A0, c0, rfl⟩ := Kd.R_slice h0
  obtain ⟨A1, c1, rfl⟩ := Kd.N_slice h1
  exact ⟨A0, c0, A1, c1, rfl, (Kd.R_reads' h0).2.2, (Kd.R_reads' h0).2.1, (Kd.N_reads' h1).2.2, (Kd.N_reads' h1).2.1, hb⟩
theorem Crown_at (A : Option Addr) (c : Nat) (W : World) (hr : Kd.C (Kd.int .i64) W A 3 [100, 104, 102]) (hc : 3 ≤ c) : Calls Try.prog 25 #[.slice A 3 c] W fun e W' => e = .returned (.tuple #[.agg #[.int .i64 3, .int .i64 1], .int .i64 0]) ∧ Below W.heap.size W W' :=
  flat_CrownOf.calls 50 A c [100, 104, 102] 3 1 0 W hr hc (by decide +kernel)
theorem Best_at (A0 : Option Addr) (c0 : Nat) (A1 : Option Addr) (c1 : Nat) (W : World) (h0 : Kd.C (Kd.int .i64) W A0 exT.length exT) (g0 : exT.length ≤ c0) (h1 : Kd.C k39 W A1 exA.length exA) (g1 : exA.length ≤ c1) :
    Calls Try.prog 10 #[.agg #[.slice A0 3 c0, .slice A1 1 c1]] W fun e W' => ∃ A c, e = .returned (.tuple #[.slice A 1 c, .int .i64 3, .int .i64 0]) ∧ Kd.C (Kd.int .i64) W' A 1 [2] ∧ 1 ≤ c ∧ Below W.heap.size W W' := by
  refine (flat_Best.calls A0 c0 exT A1 c1 exA [2] 3 0 W h0 g0 h1 g1 (by decide +kernel)).mono ?_
  rintro e W' ⟨v, rfl, hv, hb⟩
  obtain ⟨A, c, rfl⟩ := Kd.R_slice hv
  exact ⟨A, c, rfl, (Kd.R_reads' hv).2.2, (Kd.R_reads' hv).2.1, hb⟩
theorem Bound_at (A0 : Option Addr) (c0 : Nat) (A1 : Option Addr) (c1 : Nat) (A2 : Option Addr) (c2 : Nat) (W : World) (h0 : Kd.C (Kd.int .i64) W A0 exT.length exT) (g0 : exT.length ≤ c0) (h1 : Kd.C k39 W A1 exA.length exA) (g1 : exA.length ≤ c1) (h2 : Kd.C (Kd.int .i64) W A2 3 [1, -2, 0]) (g2 : 3 ≤ c2) :
    Calls Try.prog 27 #[.agg #[.slice A0 3 c0, .slice A1 1 c1], .slice A2 3 c2] W fun e W' => e = .returned (.tuple #[.agg #[.int .i64 7, .int .i64 3], .int .i64 0]) ∧ Below W.heap.size W W' :=
  flat_BoundOf.calls A0 c0 exT A1 c1 exA A2 c2 [1, -2, 0] 7 3 0 W h0 g0 h1 g1 h2 g2 (by decide +kernel)
theorem Contra_at (A0 : Option Addr) (c0 : Nat) (A1 : Option Addr) (c1 : Nat) (W : World) (h0 : Kd.C (Kd.int .i64) W A0 exT.length exT) (g0 : exT.length ≤ c0) (h1 : Kd.C k39 W A1 exA.length exA) (g1 : exA.length ≤ c1) :
    Calls Try.prog 13 #[.agg #[.slice A0 3 c0, .slice A1 1 c1], .int .i64 2] W fun e W' => ∃ A c, e = .returned (.tuple #[.slice A 2 c, .int .i64 0]) ∧ Kd.C (Kd.int .i64) W' A 2 [0, 1] ∧ 2 ≤ c ∧ Below W.heap.size W W' := by
  refine (flat_ContradictingIn.calls A0 c0 exT A1 c1 exA 2 [0, 1] 0 W h0 g0 h1 g1 (by decide +kernel)).mono ?_
  rintro e W' ⟨v, rfl, hv, hb⟩
  obtain ⟨A, c, rfl⟩ := Kd.R_slice hv
  exact ⟨A, c, rfl, (Kd.R_reads' hv).2.2, (Kd.R_reads' hv).2.1, hb⟩
theorem Heated_at (A : Option Addr) (c : Nat) (w : World) (hr : Kd.C (Kd.int .i64) w A 2 [100, 0]) (hc : 2 ≤ c) :
    Calls Try.prog 28 #[.slice A 2 c, .agg #[.int .i64 0, .int .i64 100, .int .i64 200], .int .i64 1] w fun e W' => ∃ A c, e = .returned (.tuple #[.slice A 2 c, .int .i64 0]) ∧ Kd.C (Kd.int .i64) W' A 2 [70, 20] ∧ 2 ≤ c ∧ Below w.heap.size w W' := by
  refine (flat_HeatedBy.calls A c [100, 0] 0 100 200 1 [70, 20] 0 w hr hc (by decide +kernel)).mono ?_
  rintro e W' ⟨v, rfl, hv, hb⟩
  obtain ⟨A, c, rfl⟩ := Kd.R_slice hv
  exact ⟨A, c, rfl, (Kd.R_reads' hv).2.2, (Kd.R_reads' hv).2.1, hb⟩
theorem Ints_at (A0 : Option Addr) (c0 : Nat) (A1 : Option Addr) (c1 : Nat) (l : List Int) (n : Nat) (w : World) (hn : l.length = n) (h0 : Kd.C (Kd.int .i64) w A0 n l) (g0 : n ≤ c0) (h1 : Kd.C (Kd.int .i64) w A1 n l) (g1 : n ≤ c1) (hf : cobblebase_Ints.f 9 l l = some true) :
    Calls Try.prog 30 #[.slice A0 n c0, .slice A1 n c1] w fun e w' => e = .returned (.bool true) ∧ ∃ q, w' = w.drewN q := by
  subst hn
  exact (cobblebase_Ints.calls 9 A0 c0 l A1 c1 l true w h0 g0 h1 g1 hf).mono fun e w' h => ⟨h.1, h.2.out⟩
theorem Whole_at (w : World) : Calls Try.prog 29 #[.int .i64 3] w fun e w' => e = .returned (.agg #[.int .i64 3, .int .i64 1]) ∧ Below w.heap.size w w' := cobblebase_Whole.calls 3 3 1 w rfl

theorem lit3 (W : World) (a b c : Int) : Kd.C (Kd.int .i64) (W.alloc (.cells #[.int .i64 a, .int .i64 b, .int .i64 c] 3)) (some ⟨W.heap.size, 0, none⟩) 3 [a, b, c] := lit_C W 3 [a, b, c] (by simp)
theorem lit2 (W : World) (a b : Int) : Kd.C (Kd.int .i64) (W.alloc (.cells #[.int .i64 a, .int .i64 b] 3)) (some ⟨W.heap.size, 0, none⟩) 2 [a, b] := lit_C W 3 [a, b] (by simp)
theorem lit1 (W : World) (a : Int) : Kd.C (Kd.int .i64) (W.alloc (.cells #[.int .i64 a] 3)) (some ⟨W.heap.size, 0, none⟩) 1 [a] := lit_C W 3 [a] (by simp)
set_option maxRecDepth 100000 in
set_option maxHeartbeats 2000000 in
theorem awake_at (w : World) : Calls Try.prog 6 #[] w fun e w' => e = .returned (.bool true) ∧ Below w.heap.size w w' := by
  have hu69 := Try.underlying69
  go_enter Try.func6, Try.ntmps6
  go_wp2_with (go_at_call 25; refine (Crown_at _ _ _ (lit3 w 100 104 102) (by decide)).mono ?_; rintro e W1 ⟨rfl, hb1⟩)
  have HB1 : Aside0 (Below w.heap.size w W1) := ⟨(below_alloc (Below.refl _ _) _).trans (hb1.mono (by simp))⟩
  have hx1 := blk_new W1 (.cells #[.int .i64 3, .int .i64 1] 69)
  have HX1 := Aside0.mk hx1
  clear hx1 hb1
  go_wp2_with (go_at_call 26; refine (Rules_at _).mono ?_; rintro e W2 ⟨A0, c0, A1, c1, rfl, h0, g0, h1, g1, hb2⟩)
  have HX2 := Aside0.mk (blk_below HX1.out hb2)
  have HB2 := Aside0.mk (HB1.out.trans (((below_alloc (Below.refl _ _) _).trans (hb2.mono (by simp))).mono HB1.out.size))
  clear hb2 HX1 HB1
  refine (Best_at A0 c0 A1 c1 W2 h0 g0 h1 g1).mono ?_
  rintro e W3 ⟨A3, c3, rfl, h3, g3, hb3⟩
  have H3 := Aside0.mk h3
  have HX3 := Aside0.mk (blk_below HX2.out hb3)
  have HB3 := Aside0.mk (HB2.out.trans (hb3.mono HB2.out.size))
  clear hb3 HX2 HB2 h0 g0 h1 g1 h3
  go_wp2_with (go_at_call 26; refine (Rules_at _).mono ?_; rintro e W4 ⟨B0, d0, B1, d1, rfl, h0, g0, h1, g1, hb4⟩)
  have HX4 := Aside0.mk (blk_below HX3.out hb4)
  have HB4 := Aside0.mk (HB3.out.trans (hb4.mono HB3.out.size))
  have H4 := Aside0.mk (Kd.C_below H3.out hb4)
  clear hb4 HX3 HB3 H3
  refine (Bound_at B0 d0 B1 d1 _ _ _ (Kd.C_below h0 (below_alloc (Below.refl _ _) _)) g0 (Kd.C_below h1 (below_alloc (Below.refl _ _) _)) g1 (lit3 W4 1 (-2) 0) (by decide)).mono ?_
  rintro e W5 ⟨rfl, hb5⟩
  have hb5' : Below W4.heap.size W4 W5 := (below_alloc (Below.refl _ _) _).trans (hb5.mono (by simp))
  have HX5 := Aside0.mk (blk_below HX4.out hb5')
  have HB5 := Aside0.mk (HB4.out.trans (hb5'.mono HB4.out.size))
  have H5 := Aside0.mk (Kd.C_below H4.out hb5')
  clear hb5 hb5' HX4 HB4 H4 h0 g0 h1 g1
  have HY5 := Aside0.mk (blk_new W5 (.cells #[.int .i64 7, .int .i64 3] 69))
  go_wp2_with (go_at_call 26; refine (Rules_at _).mono ?_; rintro e W6 ⟨D0, e0, D1, e1, rfl, h0, g0, h1, g1, hb6⟩)
  have hb6' : Below W5.heap.size W5 W6 := (below_alloc (Below.refl _ _) _).trans (hb6.mono (by simp))
  have HX6 := Aside0.mk (blk_below HX5.out hb6')
  have HY6 := Aside0.mk (blk_below HY5.out hb6)
  have HB6 := Aside0.mk (HB5.out.trans (hb6'.mono HB5.out.size))
  have H6 := Aside0.mk (Kd.C_below H5.out hb6')
  clear hb6 hb6' HX5 HB5 H5 HY5
  refine (Contra_at D0 e0 D1 e1 W6 h0 g0 h1 g1).mono ?_
  rintro e W7 ⟨A7, c7, rfl, h7, g7, hb7⟩
  have HX7 := Aside0.mk (blk_below HX6.out hb7)
  have HY7 := Aside0.mk (blk_below HY6.out hb7)
  have HB7 := Aside0.mk (HB6.out.trans (hb7.mono HB6.out.size))
  have H7 := Aside0.mk (Kd.C_below H6.out hb7)
  have K7 := Aside0.mk h7
  clear hb7 HX6 HY6 HB6 H6 h0 g0 h1 g1 h7
  go_wp2_with (go_at_call 28; refine (Heated_at _ _ _ (lit2 W7 100 0) (by decide)).mono ?_; rintro e W8 ⟨A8, c8, rfl, h8, g8, hb8⟩)
  have hb8' : Below W7.heap.size W7 W8 := (below_alloc (Below.refl _ _) _).trans (hb8.mono (by simp))
  have HX8 := Aside0.mk (blk_below HX7.out hb8')
  have HY8 := Aside0.mk (blk_below HY7.out hb8')
  have HB8 := Aside0.mk (HB7.out.trans (hb8'.mono HB7.out.size))
  have H8 := Aside0.mk (Kd.C_below H7.out hb8')
  have K8 := Aside0.mk (Kd.C_below K7.out hb8')
  have L8 := Aside0.mk h8
  clear hb8 hb8' HX7 HY7 HB7 H7 K7 h8
  have KS : Aside0 (∀ w' : World, Below W8.heap.size W8 w' → (w'.cell? ⟨W1.heap.size, 0, none⟩ = some (.int .i64 3) ∧ w'.cell? ⟨W1.heap.size, 1, none⟩ = some (.int .i64 1) ∧ w'.cell? ⟨W5.heap.size, 0, none⟩ = some (.int .i64 7) ∧ w'.cell? ⟨W5.heap.size, 1, none⟩ = some (.int .i64 3))) := ⟨fun w' hb => ⟨(hb.cell (p := ⟨W1.heap.size, 0, none⟩) (blk_lt HX8.out)).trans (blk_cell HX8.out 0), (hb.cell (p := ⟨W1.heap.size, 1, none⟩) (blk_lt HX8.out)).trans (blk_cell HX8.out 1), (hb.cell (p := ⟨W5.heap.size, 0, none⟩) (blk_lt HY8.out)).trans (blk_cell HY8.out 0), (hb.cell (p := ⟨W5.heap.size, 1, none⟩) (blk_lt HY8.out)).trans (blk_cell HY8.out 1)⟩⟩
  have hq1 : ∀ w, (binOp .eql 69 (.agg #[.int .i64 3, .int .i64 1]) (.agg #[.int .i64 3, .int .i64 1])).run Try.prog w = .ok (.bool true) w := fun _ => by kernel_rfl
  have hq2 : ∀ w, (binOp .eql 69 (.agg #[.int .i64 7, .int .i64 3]) (.agg #[.int .i64 7, .int .i64 3])).run Try.prog w = .ok (.bool true) w := fun _ => by kernel_rfl
  refine wp_region_held_drew (S := (fun w' => w'.cell? ⟨W1.heap.size, 0, none⟩ = some (.int .i64 3) ∧ w'.cell? ⟨W1.heap.size, 1, none⟩ = some (.int .i64 1) ∧ w'.cell? ⟨W5.heap.size, 0, none⟩ = some (.int .i64 7) ∧ w'.cell? ⟨W5.heap.size, 1, none⟩ = some (.int .i64 3))) (by kernel_rfl) ?_ (fun hHeld => ?_)
  · exact KS.out _ (by repeat (first | exact hB12 | exact hB11 | exact hB10 | exact hB9 | exact Below.refl _ _ | apply below_drew | apply below_alloc | apply pw_below_drewN))
  refine takeT (i := 0) (d := 40) (v := ?_) rfl rfl (by kernel_rfl) (by kernel_rfl) (by kernel_rfl) (fun _ _ _ h => h) (Or.inl ⟨rfl, fun w hSw => ?_⟩) (by assumption) ?_
  rotate_left
  · (try dsimp only at hSw); simp only [List.getElem_toArray, List.getElem_cons_zero, List.getElem_cons_succ]; go_simp <;> with_reducible rfl
  simp only [List.setIfInBounds_toArray, List.set_cons_zero, List.set_cons_succ]
  refine takeT (i := 1) (d := 41) (v := ?_) rfl rfl (by kernel_rfl) (by kernel_rfl) (by kernel_rfl) (fun _ _ _ h => h) (Or.inl ⟨rfl, fun w hSw => ?_⟩) (by assumption) ?_
  rotate_left
  · (try dsimp only at hSw); simp only [List.getElem_toArray, List.getElem_cons_zero, List.getElem_cons_succ]; go_simp <;> with_reducible rfl
  simp only [List.setIfInBounds_toArray, List.set_cons_zero, List.set_cons_succ]
  refine takeT (i := 2) (d := 42) (v := ?_) rfl rfl (by kernel_rfl) (by kernel_rfl) (by kernel_rfl) (fun _ _ _ h => h) (Or.inl ⟨rfl, fun w hSw => ?_⟩) (by assumption) ?_
  rotate_left
  · (try dsimp only at hSw); simp only [List.getElem_toArray, List.getElem_cons_zero, List.getElem_cons_succ]; go_simp <;> with_reducible rfl
  simp only [List.setIfInBounds_toArray, List.set_cons_zero, List.set_cons_succ]
  refine takeT (i := 3) (d := 43) (v := ?_) rfl rfl (by kernel_rfl) (by kernel_rfl) (by kernel_rfl) (fun _ _ _ h => h) (Or.inl ⟨rfl, fun w hSw => ?_⟩) (by assumption) ?_
  rotate_left
  · (try dsimp only at hSw); simp only [List.getElem_toArray, List.getElem_cons_zero, List.getElem_cons_succ]; go_simp <;> with_reducible rfl
  simp only [List.setIfInBounds_toArray, List.set_cons_zero, List.set_cons_succ]
  refine wpAnyH_ready (rs := [4]) (by kernel_rfl) (by simp) ?_
  refine AllReadyH.cons rfl (fun K hK => ?_) ?_
  · simp only [List.getElem_toArray, List.getElem_cons_zero, List.getElem_cons_succ]; go_simp
    refine (Whole_at _).mono ?_; rintro e W9 ⟨rfl, hb9⟩; have hB9 : Below W8.heap.size W8 W9 := (below_drew (Below.refl _ _)).trans hb9; clear hb9
    refine hK.out _ _ ?_ ?_
    · exact KS.out _ (by repeat (first | exact hB12 | exact hB11 | exact hB10 | exact hB9 | exact Below.refl _ _ | apply below_drew | apply below_alloc | apply pw_below_drewN))
    clear hHeld hK K; intro hHeld
    try simp only [Act.put, List.setIfInBounds_toArray, List.set_cons_zero, List.set_cons_succ]
    refine takeT (i := 5) (d := 45) (v := ?_) rfl rfl (by kernel_rfl) (by kernel_rfl) (by kernel_rfl) (fun _ _ _ h => h) (Or.inl ⟨rfl, fun w hSw => ?_⟩) (by assumption) ?_
    rotate_left
    · (try dsimp only at hSw); simp only [List.getElem_toArray, List.getElem_cons_zero, List.getElem_cons_succ]; go_simp <;> with_reducible rfl
    simp only [List.setIfInBounds_toArray, List.set_cons_zero, List.set_cons_succ]
    refine takeT (i := 6) (d := 46) (v := ?_) rfl rfl (by kernel_rfl) (by kernel_rfl) (by kernel_rfl) (fun _ _ _ h => h) (Or.inl ⟨rfl, fun w hSw => ?_⟩) (by assumption) ?_
    rotate_left
    · (try dsimp only at hSw); simp only [List.getElem_toArray, List.getElem_cons_zero, List.getElem_cons_succ]; go_simp <;> with_reducible rfl
    simp only [List.setIfInBounds_toArray, List.set_cons_zero, List.set_cons_succ]
    refine takeT (i := 7) (d := 47) (v := ?_) rfl rfl (by kernel_rfl) (by kernel_rfl) (by kernel_rfl) (fun _ _ _ h => h) (Or.inl ⟨rfl, fun w hSw => ?_⟩) (by assumption) ?_
    rotate_left
    · (try dsimp only at hSw); simp only [List.getElem_toArray, List.getElem_cons_zero, List.getElem_cons_succ]; go_simp <;> with_reducible rfl
    simp only [List.setIfInBounds_toArray, List.set_cons_zero, List.set_cons_succ]
    refine takeT (i := 8) (d := 48) (v := ?_) rfl rfl (by kernel_rfl) (by kernel_rfl) (by kernel_rfl) (fun _ _ _ h => h) (Or.inl ⟨rfl, fun w hSw => ?_⟩) (by assumption) ?_
    rotate_left
    · (try dsimp only at hSw); simp only [List.getElem_toArray, List.getElem_cons_zero, List.getElem_cons_succ]; go_simp <;> with_reducible rfl
    simp only [List.setIfInBounds_toArray, List.set_cons_zero, List.set_cons_succ]
    refine takeT (i := 9) (d := 49) (v := ?_) rfl rfl (by kernel_rfl) (by kernel_rfl) (by kernel_rfl) (fun _ _ _ h => h) (Or.inl ⟨rfl, fun w hSw => ?_⟩) (by assumption) ?_
    rotate_left
    · (try dsimp only at hSw); simp only [List.getElem_toArray, List.getElem_cons_zero, List.getElem_cons_succ]; go_simp <;> with_reducible rfl
    simp only [List.setIfInBounds_toArray, List.set_cons_zero, List.set_cons_succ]
    refine takeT (i := 10) (d := 50) (v := ?_) rfl rfl (by kernel_rfl) (by kernel_rfl) (by kernel_rfl) (fun _ _ _ h => h) (Or.inl ⟨rfl, fun w hSw => ?_⟩) (by assumption) ?_
    rotate_left
    · (try dsimp only at hSw); simp only [List.getElem_toArray, List.getElem_cons_zero, List.getElem_cons_succ]; go_simp <;> with_reducible rfl
    simp only [List.setIfInBounds_toArray, List.set_cons_zero, List.set_cons_succ]
    refine takeT (i := 11) (d := 51) (v := ?_) rfl rfl (by kernel_rfl) (by kernel_rfl) (by kernel_rfl) (fun _ _ _ h => h) (Or.inl ⟨rfl, fun w hSw => ?_⟩) (by assumption) ?_
    rotate_left
    · (try dsimp only at hSw); simp only [List.getElem_toArray, List.getElem_cons_zero, List.getElem_cons_succ]; go_simp <;> with_reducible rfl
    simp only [List.setIfInBounds_toArray, List.set_cons_zero, List.set_cons_succ]
    refine takeT (i := 12) (d := 52) (v := ?_) rfl rfl (by kernel_rfl) (by kernel_rfl) (by kernel_rfl) (fun _ _ _ h => h) (Or.inl ⟨rfl, fun w hSw => ?_⟩) (by assumption) ?_
    rotate_left
    · (try dsimp only at hSw); simp only [List.getElem_toArray, List.getElem_cons_zero, List.getElem_cons_succ]; go_simp <;> with_reducible rfl
    simp only [List.setIfInBounds_toArray, List.set_cons_zero, List.set_cons_succ]
    refine takeT (i := 13) (d := 53) (v := ?_) rfl rfl (by kernel_rfl) (by kernel_rfl) (by kernel_rfl) (fun _ _ _ h => h) (Or.inl ⟨rfl, fun w hSw => ?_⟩) (by assumption) ?_
    rotate_left
    · (try dsimp only at hSw); simp only [List.getElem_toArray, List.getElem_cons_zero, List.getElem_cons_succ]; go_simp <;> with_reducible rfl
    simp only [List.setIfInBounds_toArray, List.set_cons_zero, List.set_cons_succ]
    refine takeT (i := 14) (d := 54) (v := ?_) rfl rfl (by kernel_rfl) (by kernel_rfl) (by kernel_rfl) (fun _ _ _ h => h) (Or.inl ⟨rfl, fun w hSw => ?_⟩) (by assumption) ?_
    rotate_left
    · (try dsimp only at hSw); simp only [List.getElem_toArray, List.getElem_cons_zero, List.getElem_cons_succ]; go_simp <;> with_reducible rfl
    simp only [List.setIfInBounds_toArray, List.set_cons_zero, List.set_cons_succ]
    refine takeT (i := 15) (d := 55) (v := ?_) rfl rfl (by kernel_rfl) (by kernel_rfl) (by kernel_rfl) (fun _ _ _ h => h) (Or.inl ⟨rfl, fun w hSw => ?_⟩) (by assumption) ?_
    rotate_left
    · (try dsimp only at hSw); simp only [List.getElem_toArray, List.getElem_cons_zero, List.getElem_cons_succ]; go_simp <;> with_reducible rfl
    simp only [List.setIfInBounds_toArray, List.set_cons_zero, List.set_cons_succ]
    refine takeT (i := 16) (d := 56) (v := ?_) rfl rfl (by kernel_rfl) (by kernel_rfl) (by kernel_rfl) (fun _ _ _ h => h) (Or.inl ⟨rfl, fun w hSw => ?_⟩) (by assumption) ?_
    rotate_left
    · (try dsimp only at hSw); simp only [List.getElem_toArray, List.getElem_cons_zero, List.getElem_cons_succ]; go_simp <;> with_reducible rfl
    simp only [List.setIfInBounds_toArray, List.set_cons_zero, List.set_cons_succ]
    refine wpAnyH_ready (rs := [17]) (by kernel_rfl) (by simp) ?_
    refine AllReadyH.cons rfl (fun K hK => ?_) ?_
    · simp only [List.getElem_toArray, List.getElem_cons_zero, List.getElem_cons_succ]; go_simp
      refine hK.out _ _ ?_ ?_
      · exact KS.out _ (by repeat (first | exact hB12 | exact hB11 | exact hB10 | exact hB9 | exact Below.refl _ _ | apply below_drew | apply below_alloc | apply pw_below_drewN))
      clear hHeld hK K; intro hHeld
      try simp only [Act.put, List.setIfInBounds_toArray, List.set_cons_zero, List.set_cons_succ]
      refine wpAnyH_ready (rs := [18]) (by kernel_rfl) (by simp) ?_
      refine AllReadyH.cons rfl (fun K hK => ?_) ?_
      · simp only [List.getElem_toArray, List.getElem_cons_zero, List.getElem_cons_succ]; go_simp
        refine (Ints_at A3 c3 _ _ [2] 1 _ rfl (Kd.C_below H8.out (below_alloc hB9 _)) g3 (lit1 W9 2) (by decide) (by decide +kernel)).mono ?_; rintro e W10 ⟨rfl, hq⟩; have hB10 : Below W8.heap.size W8 W10 := (by obtain ⟨q, rfl⟩ := hq; exact pw_below_drewN (below_alloc hB9 _) q); clear hq
        refine hK.out _ _ ?_ ?_
        · exact KS.out _ (by repeat (first | exact hB12 | exact hB11 | exact hB10 | exact hB9 | exact Below.refl _ _ | apply below_drew | apply below_alloc | apply pw_below_drewN))
        clear hHeld hK K; intro hHeld
        try simp only [Act.put, List.setIfInBounds_toArray, List.set_cons_zero, List.set_cons_succ]
        refine takeT (i := 19) (d := 59) (v := ?_) rfl rfl (by kernel_rfl) (by kernel_rfl) (by kernel_rfl) (fun _ _ _ h => h) (Or.inl ⟨rfl, fun w hSw => ?_⟩) (by assumption) ?_
        rotate_left
        · (try dsimp only at hSw); simp only [List.getElem_toArray, List.getElem_cons_zero, List.getElem_cons_succ]; go_simp <;> with_reducible rfl
        simp only [List.setIfInBounds_toArray, List.set_cons_zero, List.set_cons_succ]
        refine takeT (i := 20) (d := 60) (v := ?_) rfl rfl (by kernel_rfl) (by kernel_rfl) (by kernel_rfl) (fun _ _ _ h => h) (Or.inl ⟨rfl, fun w hSw => ?_⟩) (by assumption) ?_
        rotate_left
        · (try dsimp only at hSw); simp only [List.getElem_toArray, List.getElem_cons_zero, List.getElem_cons_succ]; go_simp <;> with_reducible rfl
        simp only [List.setIfInBounds_toArray, List.set_cons_zero, List.set_cons_succ]
        refine takeT (i := 21) (d := 61) (v := ?_) rfl rfl (by kernel_rfl) (by kernel_rfl) (by kernel_rfl) (fun _ _ _ h => h) (Or.inl ⟨rfl, fun w hSw => ?_⟩) (by assumption) ?_
        rotate_left
        · (try dsimp only at hSw); simp only [List.getElem_toArray, List.getElem_cons_zero, List.getElem_cons_succ]; go_simp <;> with_reducible rfl
        simp only [List.setIfInBounds_toArray, List.set_cons_zero, List.set_cons_succ]
        refine takeT (i := 22) (d := 62) (v := ?_) rfl rfl (by kernel_rfl) (by kernel_rfl) (by kernel_rfl) (fun _ _ _ h => h) (Or.inl ⟨rfl, fun w hSw => ?_⟩) (by assumption) ?_
        rotate_left
        · (try dsimp only at hSw); simp only [List.getElem_toArray, List.getElem_cons_zero, List.getElem_cons_succ]; go_simp <;> with_reducible rfl
        simp only [List.setIfInBounds_toArray, List.set_cons_zero, List.set_cons_succ]
        refine takeT (i := 23) (d := 63) (v := ?_) rfl rfl (by kernel_rfl) (by kernel_rfl) (by kernel_rfl) (fun _ _ _ h => h) (Or.inl ⟨rfl, fun w hSw => ?_⟩) (by assumption) ?_
        rotate_left
        · (try dsimp only at hSw); simp only [List.getElem_toArray, List.getElem_cons_zero, List.getElem_cons_succ]; go_simp <;> with_reducible rfl
        simp only [List.setIfInBounds_toArray, List.set_cons_zero, List.set_cons_succ]
        refine takeT (i := 24) (d := 64) (v := ?_) rfl rfl (by kernel_rfl) (by kernel_rfl) (by kernel_rfl) (fun _ _ _ h => h) (Or.inl ⟨rfl, fun w hSw => ?_⟩) (by assumption) ?_
        rotate_left
        · (try dsimp only at hSw); simp only [List.getElem_toArray, List.getElem_cons_zero, List.getElem_cons_succ]; go_simp <;> with_reducible rfl
        simp only [List.setIfInBounds_toArray, List.set_cons_zero, List.set_cons_succ]
        refine takeT (i := 25) (d := 65) (v := ?_) rfl rfl (by kernel_rfl) (by kernel_rfl) (by kernel_rfl) (fun _ _ _ h => h) (Or.inl ⟨rfl, fun w hSw => ?_⟩) (by assumption) ?_
        rotate_left
        · (try dsimp only at hSw); simp only [List.getElem_toArray, List.getElem_cons_zero, List.getElem_cons_succ]; go_simp <;> with_reducible rfl
        simp only [List.setIfInBounds_toArray, List.set_cons_zero, List.set_cons_succ]
        refine takeT (i := 26) (d := 66) (v := ?_) rfl rfl (by kernel_rfl) (by kernel_rfl) (by kernel_rfl) (fun _ _ _ h => h) (Or.inl ⟨rfl, fun w hSw => ?_⟩) (by assumption) ?_
        rotate_left
        · (try dsimp only at hSw); simp only [List.getElem_toArray, List.getElem_cons_zero, List.getElem_cons_succ]; go_simp <;> with_reducible rfl
        simp only [List.setIfInBounds_toArray, List.set_cons_zero, List.set_cons_succ]
        refine takeT (i := 27) (d := 67) (v := ?_) rfl rfl (by kernel_rfl) (by kernel_rfl) (by kernel_rfl) (fun _ _ _ h => h) (Or.inl ⟨rfl, fun w hSw => ?_⟩) (by assumption) ?_
        rotate_left
        · (try dsimp only at hSw); simp only [List.getElem_toArray, List.getElem_cons_zero, List.getElem_cons_succ]; go_simp <;> with_reducible rfl
        simp only [List.setIfInBounds_toArray, List.set_cons_zero, List.set_cons_succ]
        refine takeT (i := 28) (d := 68) (v := ?_) rfl rfl (by kernel_rfl) (by kernel_rfl) (by kernel_rfl) (fun _ _ _ h => h) (Or.inl ⟨rfl, fun w hSw => ?_⟩) (by assumption) ?_
        rotate_left
        · (try dsimp only at hSw); simp only [List.getElem_toArray, List.getElem_cons_zero, List.getElem_cons_succ]; go_simp <;> with_reducible rfl
        simp only [List.setIfInBounds_toArray, List.set_cons_zero, List.set_cons_succ]
        refine takeT (i := 29) (d := 69) (v := ?_) rfl rfl (by kernel_rfl) (by kernel_rfl) (by kernel_rfl) (fun _ _ _ h => h) (Or.inl ⟨rfl, fun w hSw => ?_⟩) (by assumption) ?_
        rotate_left
        · (try dsimp only at hSw); simp only [List.getElem_toArray, List.getElem_cons_zero, List.getElem_cons_succ]; go_simp <;> with_reducible rfl
        simp only [List.setIfInBounds_toArray, List.set_cons_zero, List.set_cons_succ]
        refine takeT (i := 30) (d := 70) (v := ?_) rfl rfl (by kernel_rfl) (by kernel_rfl) (by kernel_rfl) (fun _ _ _ h => h) (Or.inl ⟨rfl, fun w hSw => ?_⟩) (by assumption) ?_
        rotate_left
        · (try dsimp only at hSw); simp only [List.getElem_toArray, List.getElem_cons_zero, List.getElem_cons_succ]; go_simp <;> with_reducible rfl
        simp only [List.setIfInBounds_toArray, List.set_cons_zero, List.set_cons_succ]
        refine takeT (i := 31) (d := 71) (v := ?_) rfl rfl (by kernel_rfl) (by kernel_rfl) (by kernel_rfl) (fun _ _ _ h => h) (Or.inl ⟨rfl, fun w hSw => ?_⟩) (by assumption) ?_
        rotate_left
        · (try dsimp only at hSw); simp only [List.getElem_toArray, List.getElem_cons_zero, List.getElem_cons_succ]; go_simp <;> with_reducible rfl
        simp only [List.setIfInBounds_toArray, List.set_cons_zero, List.set_cons_succ]
        refine takeT (i := 32) (d := 72) (v := ?_) rfl rfl (by kernel_rfl) (by kernel_rfl) (by kernel_rfl) (fun _ _ _ h => h) (Or.inl ⟨rfl, fun w hSw => ?_⟩) (by assumption) ?_
        rotate_left
        · (try dsimp only at hSw); simp only [List.getElem_toArray, List.getElem_cons_zero, List.getElem_cons_succ]; go_simp <;> with_reducible rfl
        simp only [List.setIfInBounds_toArray, List.set_cons_zero, List.set_cons_succ]
        refine takeT (i := 33) (d := 73) (v := ?_) rfl rfl (by kernel_rfl) (by kernel_rfl) (by kernel_rfl) (fun _ _ _ h => h) (Or.inl ⟨rfl, fun w hSw => ?_⟩) (by assumption) ?_
        rotate_left
        · (try dsimp only at hSw); simp only [List.getElem_toArray, List.getElem_cons_zero, List.getElem_cons_succ]; go_simp <;> with_reducible rfl
        simp only [List.setIfInBounds_toArray, List.set_cons_zero, List.set_cons_succ]
        refine takeT (i := 34) (d := 74) (v := ?_) rfl rfl (by kernel_rfl) (by kernel_rfl) (by kernel_rfl) (fun _ _ _ h => h) (Or.inl ⟨rfl, fun w hSw => ?_⟩) (by assumption) ?_
        rotate_left
        · (try dsimp only at hSw); simp only [List.getElem_toArray, List.getElem_cons_zero, List.getElem_cons_succ]; go_simp <;> with_reducible rfl
        simp only [List.setIfInBounds_toArray, List.set_cons_zero, List.set_cons_succ]
        refine wpAnyH_ready (rs := [35]) (by kernel_rfl) (by simp) ?_
        refine AllReadyH.cons rfl (fun K hK => ?_) ?_
        · simp only [List.getElem_toArray, List.getElem_cons_zero, List.getElem_cons_succ]; go_simp
          refine hK.out _ _ ?_ ?_
          · exact KS.out _ (by repeat (first | exact hB12 | exact hB11 | exact hB10 | exact hB9 | exact Below.refl _ _ | apply below_drew | apply below_alloc | apply pw_below_drewN))
          clear hHeld hK K; intro hHeld
          try simp only [Act.put, List.setIfInBounds_toArray, List.set_cons_zero, List.set_cons_succ]
          refine wpAnyH_ready (rs := [36]) (by kernel_rfl) (by simp) ?_
          refine AllReadyH.cons rfl (fun K hK => ?_) ?_
          · simp only [List.getElem_toArray, List.getElem_cons_zero, List.getElem_cons_succ]; go_simp
            refine (Ints_at A7 c7 _ _ [0, 1] 2 _ rfl (Kd.C_below K8.out (below_alloc hB10 _)) g7 (lit2 W10 0 1) (by decide) (by decide +kernel)).mono ?_; rintro e W11 ⟨rfl, hq⟩; have hB11 : Below W8.heap.size W8 W11 := (by obtain ⟨q, rfl⟩ := hq; exact pw_below_drewN (below_alloc hB10 _) q); clear hq
            refine hK.out _ _ ?_ ?_
            · exact KS.out _ (by repeat (first | exact hB12 | exact hB11 | exact hB10 | exact hB9 | exact Below.refl _ _ | apply below_drew | apply below_alloc | apply pw_below_drewN))
            clear hHeld hK K; intro hHeld
            try simp only [Act.put, List.setIfInBounds_toArray, List.set_cons_zero, List.set_cons_succ]
            refine takeT (i := 37) (d := 77) (v := ?_) rfl rfl (by kernel_rfl) (by kernel_rfl) (by kernel_rfl) (fun _ _ _ h => h) (Or.inl ⟨rfl, fun w hSw => ?_⟩) (by assumption) ?_
            rotate_left
            · (try dsimp only at hSw); simp only [List.getElem_toArray, List.getElem_cons_zero, List.getElem_cons_succ]; go_simp <;> with_reducible rfl
            simp only [List.setIfInBounds_toArray, List.set_cons_zero, List.set_cons_succ]
            refine takeT (i := 38) (d := 78) (v := ?_) rfl rfl (by kernel_rfl) (by kernel_rfl) (by kernel_rfl) (fun _ _ _ h => h) (Or.inl ⟨rfl, fun w hSw => ?_⟩) (by assumption) ?_
            rotate_left
            · (try dsimp only at hSw); simp only [List.getElem_toArray, List.getElem_cons_zero, List.getElem_cons_succ]; go_simp <;> with_reducible rfl
            simp only [List.setIfInBounds_toArray, List.set_cons_zero, List.set_cons_succ]
            refine takeT (i := 39) (d := 79) (v := ?_) rfl rfl (by kernel_rfl) (by kernel_rfl) (by kernel_rfl) (fun _ _ _ h => h) (Or.inl ⟨rfl, fun w hSw => ?_⟩) (by assumption) ?_
            rotate_left
            · (try dsimp only at hSw); simp only [List.getElem_toArray, List.getElem_cons_zero, List.getElem_cons_succ]; go_simp <;> with_reducible rfl
            simp only [List.setIfInBounds_toArray, List.set_cons_zero, List.set_cons_succ]
            refine takeT (i := 40) (d := 80) (v := ?_) rfl rfl (by kernel_rfl) (by kernel_rfl) (by kernel_rfl) (fun _ _ _ h => h) (Or.inl ⟨rfl, fun w hSw => ?_⟩) (by assumption) ?_
            rotate_left
            · (try dsimp only at hSw); simp only [List.getElem_toArray, List.getElem_cons_zero, List.getElem_cons_succ]; go_simp <;> with_reducible rfl
            simp only [List.setIfInBounds_toArray, List.set_cons_zero, List.set_cons_succ]
            refine takeT (i := 41) (d := 81) (v := ?_) rfl rfl (by kernel_rfl) (by kernel_rfl) (by kernel_rfl) (fun _ _ _ h => h) (Or.inl ⟨rfl, fun w hSw => ?_⟩) (by assumption) ?_
            rotate_left
            · (try dsimp only at hSw); simp only [List.getElem_toArray, List.getElem_cons_zero, List.getElem_cons_succ]; go_simp <;> with_reducible rfl
            simp only [List.setIfInBounds_toArray, List.set_cons_zero, List.set_cons_succ]
            refine takeT (i := 42) (d := 82) (v := ?_) rfl rfl (by kernel_rfl) (by kernel_rfl) (by kernel_rfl) (fun _ _ _ h => h) (Or.inl ⟨rfl, fun w hSw => ?_⟩) (by assumption) ?_
            rotate_left
            · (try dsimp only at hSw); simp only [List.getElem_toArray, List.getElem_cons_zero, List.getElem_cons_succ]; go_simp <;> with_reducible rfl
            simp only [List.setIfInBounds_toArray, List.set_cons_zero, List.set_cons_succ]
            refine takeT (i := 43) (d := 83) (v := ?_) rfl rfl (by kernel_rfl) (by kernel_rfl) (by kernel_rfl) (fun _ _ _ h => h) (Or.inl ⟨rfl, fun w hSw => ?_⟩) (by assumption) ?_
            rotate_left
            · (try dsimp only at hSw); simp only [List.getElem_toArray, List.getElem_cons_zero, List.getElem_cons_succ]; go_simp <;> with_reducible rfl
            simp only [List.setIfInBounds_toArray, List.set_cons_zero, List.set_cons_succ]
            refine wpAnyH_ready (rs := [44]) (by kernel_rfl) (by simp) ?_
            refine AllReadyH.cons rfl (fun K hK => ?_) ?_
            · simp only [List.getElem_toArray, List.getElem_cons_zero, List.getElem_cons_succ]; go_simp
              refine hK.out _ _ ?_ ?_
              · exact KS.out _ (by repeat (first | exact hB12 | exact hB11 | exact hB10 | exact hB9 | exact Below.refl _ _ | apply below_drew | apply below_alloc | apply pw_below_drewN))
              clear hHeld hK K; intro hHeld
              try simp only [Act.put, List.setIfInBounds_toArray, List.set_cons_zero, List.set_cons_succ]
              refine wpAnyH_ready (rs := [45]) (by kernel_rfl) (by simp) ?_
              refine AllReadyH.cons rfl (fun K hK => ?_) ?_
              · simp only [List.getElem_toArray, List.getElem_cons_zero, List.getElem_cons_succ]; go_simp
                refine (Ints_at A8 c8 _ _ [70, 20] 2 _ rfl (Kd.C_below L8.out (below_alloc hB11 _)) g8 (lit2 W11 70 20) (by decide) (by decide +kernel)).mono ?_; rintro e W12 ⟨rfl, hq⟩; have hB12 : Below W8.heap.size W8 W12 := (by obtain ⟨q, rfl⟩ := hq; exact pw_below_drewN (below_alloc hB11 _) q); clear hq
                refine hK.out _ _ ?_ ?_
                · exact KS.out _ (by repeat (first | exact hB12 | exact hB11 | exact hB10 | exact hB9 | exact Below.refl _ _ | apply below_drew | apply below_alloc | apply pw_below_drewN))
                clear hHeld hK K; intro hHeld
                try simp only [Act.put, List.setIfInBounds_toArray, List.set_cons_zero, List.set_cons_succ]
                refine takeT (i := 46) (d := 86) (v := ?_) rfl rfl (by kernel_rfl) (by kernel_rfl) (by kernel_rfl) (fun _ _ _ h => h) (Or.inl ⟨rfl, fun w hSw => ?_⟩) (by assumption) ?_
                rotate_left
                · (try dsimp only at hSw); simp only [List.getElem_toArray, List.getElem_cons_zero, List.getElem_cons_succ]; go_simp <;> with_reducible rfl
                simp only [List.setIfInBounds_toArray, List.set_cons_zero, List.set_cons_succ]
                refine takeT (i := 47) (d := 0) (v := ?_) rfl rfl (by kernel_rfl) (by kernel_rfl) (by kernel_rfl) (fun _ _ _ h => h) (Or.inl ⟨rfl, fun w hSw => ?_⟩) (by assumption) ?_
                rotate_left
                · (try dsimp only at hSw); simp only [List.getElem_toArray, List.getElem_cons_zero, List.getElem_cons_succ]; go_simp <;> with_reducible rfl
                simp only [List.setIfInBounds_toArray, List.set_cons_zero, List.set_cons_succ]
                refine wpAnyH_done (by kernel_rfl) ?_ _
                clear hHeld
                go_wp2
                go_ret
                exact ⟨rfl, HB8.out.trans (hB12.mono HB8.out.size)⟩
              exact AllReadyH.nil
            exact AllReadyH.nil
          exact AllReadyH.nil
        exact AllReadyH.nil
      exact AllReadyH.nil
    exact AllReadyH.nil
  exact AllReadyH.nil
end Go.Proofs.Ytbijfhmpafjceaa.E
