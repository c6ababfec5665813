import Derived.Test.YtbijfhmpafjceaaE16
import Derived.Deep.QuietTactic
import Derived.BigQuiet
set_option linter.unusedSimpArgs false
set_option linter.unusedVariables false
namespace Go.Proofs.Ytbijfhmpafjceaa.E
open Go.RowKit Go.Proofs.YtbijfhmpafjceaaW.PrintWords Go.Proofs.YtbijfhmpafjceaaW.PrintMore Go.Proofs.Ytbijfhmpafjceaa.PFlatKept

/-! HeatedBy, at the document's example. -/
theorem floor_neg (w : World) : Calls Try.prog 130 #[.int .i64 (-30000)] w fun e w' => e = .returned (.int .i64 (-30)) ∧ w = w' := by
  go_enter Try.func130, Try.ntmps130
  go_wp2
  go_ret
  exact ⟨rfl, rfl⟩
theorem floor_pos (w : World) : Calls Try.prog 130 #[.int .i64 20000] w fun e w' => e = .returned (.int .i64 20) ∧ w = w' := by
  go_enter Try.func130, Try.ntmps130
  go_wp2
  go_ret
  exact ⟨rfl, rfl⟩
theorem floor_n (z : Int) (hz : z = -30000) (w : World) : Calls Try.prog 130 #[.int .i64 z] w fun e w' => e = .returned (.int .i64 (-30)) ∧ w = w' := by subst hz; exact floor_neg w
theorem floor_p (z : Int) (hz : z = 20000) (w : World) : Calls Try.prog 130 #[.int .i64 z] w fun e w' => e = .returned (.int .i64 20) ∧ w = w' := by subst hz; exact floor_pos w
set_option maxRecDepth 100000 in
set_option maxHeartbeats 1200000 in
theorem step_at (a : Addr) (c : Nat) (w : World) (h0 : w.cell? a = some (.int .i64 100)) (h1 : w.cell? ⟨a.block, a.off + 1, none⟩ = some (.int .i64 0)) :
    Calls Try.prog 89 #[.slice (some a) 2 c, .agg #[.int .i64 0, .int .i64 100, .int .i64 200]] w fun e w' => ∃ v, e = .returned v ∧ w'.ownsRow w.heap.size 3 1 v 2 (nums .i64 [70, 20]) ∧ Below w.heap.size w w' := by
  have hb0 : a.block < w.heap.size := World.block_lt_of_cell? _ _ h0
  have hu76 := Try.underlying76
  have i0 : inR 0 1 (-1) = false := by decide
  have i1 : inR 0 1 1 = true := by decide
  have i2 : inR 0 1 0 = true := by decide
  have i3 : inR 0 1 2 = false := by decide
  have hix0 : ∀ (p q : Int) w, (Instr.index 183 (.agg #[.int .i64 p, .int .i64 q]) (.int .i64 0)).run Try.prog w = .ok (.int .i64 p) w := fun _ _ _ => by kernel_rfl
  have hix1 : ∀ (p q : Int) w, (Instr.index 183 (.agg #[.int .i64 p, .int .i64 q]) (.int .i64 1)).run Try.prog w = .ok (.int .i64 q) w := fun _ _ _ => by kernel_rfl
  have hmk : ∀ w, (Instr.makeSlice 22 (.int .i64 2) (.int .i64 2)).run Try.prog w = .ok (.slice (some ⟨w.heap.size, 0, none⟩) 2 2) (w.alloc (.cells #[.int .i64 0, .int .i64 0] 3)) := fun _ => by kernel_rfl
  go_enter Try.func89, Try.ntmps89
  go_wp2
  refine wp_loop_rounds 3 ?_
  rw [rounds_succ]
  go_wp2
  refine wp_loop_rounds 3 ?_
  rw [rounds_succ]
  go_wp2_with (go_at_call 87; refine (within_at _ _ _ _).mono ?_; rintro e w' ⟨rfl, rfl⟩)
  rw [rounds_succ]
  go_wp2_with (go_at_call 87; refine (within_at _ _ _ _).mono ?_; rintro e w' ⟨rfl, rfl⟩)
  refine wp_region_held_drew (S := (fun w' => w'.cell? ⟨a.block, a.off + 1, none⟩ = some (.int .i64 0) ∧ w'.cell? a = some (.int .i64 100) ∧ w'.cell? ⟨w.heap.size, 2, none⟩ = some (.int .i64 200))) (by kernel_rfl) ?_ (fun hHeld => ?_)
  · simp_all [go_sem, World.cell?_alloc_past]
  refine takeT (i := 0) (d := 41) (v := ?_) rfl rfl (by kernel_rfl) (by kernel_rfl) (by kernel_rfl) (fun _ _ _ h => h) (Or.inl ⟨rfl, fun w hSw => ?_⟩) (by assumption) ?_
  rotate_left
  · (try dsimp only at hSw); simp only [List.getElem_toArray, List.getElem_cons_zero, List.getElem_cons_succ]; go_simp <;> with_reducible rfl
  simp only [List.setIfInBounds_toArray, List.set_cons_zero, List.set_cons_succ]
  refine takeT (i := 1) (d := 42) (v := ?_) rfl rfl (by kernel_rfl) (by kernel_rfl) (by kernel_rfl) (fun _ _ _ h => h) (Or.inl ⟨rfl, fun w hSw => ?_⟩) (by assumption) ?_
  rotate_left
  · (try dsimp only at hSw); simp only [List.getElem_toArray, List.getElem_cons_zero, List.getElem_cons_succ]; go_simp <;> with_reducible rfl
  simp only [List.setIfInBounds_toArray, List.set_cons_zero, List.set_cons_succ]
  refine takeT (i := 2) (d := 43) (v := ?_) rfl rfl (by kernel_rfl) (by kernel_rfl) (by kernel_rfl) (fun _ _ _ h => h) (Or.inl ⟨rfl, fun w hSw => ?_⟩) (by assumption) ?_
  rotate_left
  · (try dsimp only at hSw); simp only [List.getElem_toArray, List.getElem_cons_zero, List.getElem_cons_succ]; go_simp <;> with_reducible rfl
  simp only [List.setIfInBounds_toArray, List.set_cons_zero, List.set_cons_succ]
  refine takeT (i := 3) (d := 44) (v := ?_) rfl rfl (by kernel_rfl) (by kernel_rfl) (by kernel_rfl) (fun _ _ _ h => h) (Or.inl ⟨rfl, fun w hSw => ?_⟩) (by assumption) ?_
  rotate_left
  · (try dsimp only at hSw); simp only [List.getElem_toArray, List.getElem_cons_zero, List.getElem_cons_succ]; go_simp <;> with_reducible rfl
  simp only [List.setIfInBounds_toArray, List.set_cons_zero, List.set_cons_succ]
  refine takeT (i := 4) (d := 45) (v := ?_) rfl rfl (by kernel_rfl) (by kernel_rfl) (by kernel_rfl) (fun _ _ _ h => h) (Or.inl ⟨rfl, fun w hSw => ?_⟩) (by assumption) ?_
  rotate_left
  · (try dsimp only at hSw); simp only [List.getElem_toArray, List.getElem_cons_zero, List.getElem_cons_succ]; go_simp <;> with_reducible rfl
  simp only [List.setIfInBounds_toArray, List.set_cons_zero, List.set_cons_succ]
  refine takeT (i := 5) (d := 46) (v := ?_) rfl rfl (by kernel_rfl) (by kernel_rfl) (by kernel_rfl) (fun _ _ _ h => h) (Or.inl ⟨rfl, fun w hSw => ?_⟩) (by assumption) ?_
  rotate_left
  · (try dsimp only at hSw); simp only [List.getElem_toArray, List.getElem_cons_zero, List.getElem_cons_succ]; go_simp <;> with_reducible rfl
  simp only [List.setIfInBounds_toArray, List.set_cons_zero, List.set_cons_succ]
  refine takeT (i := 6) (d := 47) (v := ?_) rfl rfl (by kernel_rfl) (by kernel_rfl) (by kernel_rfl) (fun _ _ _ h => h) (Or.inl ⟨rfl, fun w hSw => ?_⟩) (by assumption) ?_
  rotate_left
  · (try dsimp only at hSw); simp only [List.getElem_toArray, List.getElem_cons_zero, List.getElem_cons_succ]; go_simp <;> with_reducible rfl
  simp only [List.setIfInBounds_toArray, List.set_cons_zero, List.set_cons_succ]
  refine takeT (i := 7) (d := 48) (v := ?_) rfl rfl (by kernel_rfl) (by kernel_rfl) (by kernel_rfl) (fun _ _ _ h => h) (Or.inl ⟨rfl, fun w hSw => ?_⟩) (by assumption) ?_
  rotate_left
  · (try dsimp only at hSw); simp only [List.getElem_toArray, List.getElem_cons_zero, List.getElem_cons_succ]; go_simp <;> with_reducible rfl
  simp only [List.setIfInBounds_toArray, List.set_cons_zero, List.set_cons_succ]
  refine takeT (i := 8) (d := 49) (v := ?_) rfl rfl (by kernel_rfl) (by kernel_rfl) (by kernel_rfl) (fun _ _ _ h => h) (Or.inl ⟨rfl, fun w hSw => ?_⟩) (by assumption) ?_
  rotate_left
  · (try dsimp only at hSw); simp only [List.getElem_toArray, List.getElem_cons_zero, List.getElem_cons_succ]; go_simp <;> with_reducible rfl
  simp only [List.setIfInBounds_toArray, List.set_cons_zero, List.set_cons_succ]
  refine takeT (i := 9) (d := 50) (v := ?_) rfl rfl (by kernel_rfl) (by kernel_rfl) (by kernel_rfl) (fun _ _ _ h => h) (Or.inl ⟨rfl, fun w hSw => ?_⟩) (by assumption) ?_
  rotate_left
  · (try dsimp only at hSw); simp only [List.getElem_toArray, List.getElem_cons_zero, List.getElem_cons_succ]; go_simp <;> with_reducible rfl
  simp only [List.setIfInBounds_toArray, List.set_cons_zero, List.set_cons_succ]
  refine takeT (i := 10) (d := 51) (v := ?_) rfl rfl (by kernel_rfl) (by kernel_rfl) (by kernel_rfl) (fun _ _ _ h => h) (Or.inl ⟨rfl, fun w hSw => ?_⟩) (by assumption) ?_
  rotate_left
  · (try dsimp only at hSw); simp only [List.getElem_toArray, List.getElem_cons_zero, List.getElem_cons_succ]; go_simp <;> with_reducible rfl
  simp only [List.setIfInBounds_toArray, List.set_cons_zero, List.set_cons_succ]
  refine takeT (i := 11) (d := 8) (v := ?_) rfl rfl (by kernel_rfl) (by kernel_rfl) (by kernel_rfl) (fun _ _ _ h => h) (Or.inl ⟨rfl, fun w hSw => ?_⟩) (by assumption) ?_
  rotate_left
  · (try dsimp only at hSw); simp only [List.getElem_toArray, List.getElem_cons_zero, List.getElem_cons_succ]; go_simp <;> with_reducible rfl
  simp only [List.setIfInBounds_toArray, List.set_cons_zero, List.set_cons_succ]
  refine wpAnyH_done (by kernel_rfl) ?_ _
  go_wp2_with (go_at_call 87; refine (within_at _ _ _ _).mono ?_; rintro e w' ⟨rfl, rfl⟩)
  rw [rounds_succ]
  go_wp2_with (first | (go_at_call 87; refine (within_at _ _ _ _).mono ?_; rintro e w' ⟨rfl, rfl⟩) | (go_at_call 130; refine (floor_n _ (by decide) _).mono ?_; rintro e w' ⟨rfl, rfl⟩))
  rw [rounds_succ]
  go_wp2_with (go_at_call 87; refine (within_at _ _ _ _).mono ?_; rintro e w' ⟨rfl, rfl⟩)
  refine wp_loop_rounds 3 ?_
  rw [rounds_succ]
  go_wp2_with (go_at_call 87; refine (within_at _ _ _ _).mono ?_; rintro e w' ⟨rfl, rfl⟩)
  refine wp_region_held_drew (S := (fun w' => w'.cell? ⟨a.block, a.off + 1, none⟩ = some (.int .i64 0) ∧ w'.cell? a = some (.int .i64 100) ∧ w'.cell? ⟨w.heap.size, 2, none⟩ = some (.int .i64 200))) (by kernel_rfl) ?_ (fun hHeld => ?_)
  · simp_all [go_sem, World.cell?_alloc_past]
  refine takeT (i := 0) (d := 41) (v := ?_) rfl rfl (by kernel_rfl) (by kernel_rfl) (by kernel_rfl) (fun _ _ _ h => h) (Or.inl ⟨rfl, fun w hSw => ?_⟩) (by assumption) ?_
  rotate_left
  · (try dsimp only at hSw); simp only [List.getElem_toArray, List.getElem_cons_zero, List.getElem_cons_succ]; go_simp <;> with_reducible rfl
  simp only [List.setIfInBounds_toArray, List.set_cons_zero, List.set_cons_succ]
  refine takeT (i := 1) (d := 42) (v := ?_) rfl rfl (by kernel_rfl) (by kernel_rfl) (by kernel_rfl) (fun _ _ _ h => h) (Or.inl ⟨rfl, fun w hSw => ?_⟩) (by assumption) ?_
  rotate_left
  · (try dsimp only at hSw); simp only [List.getElem_toArray, List.getElem_cons_zero, List.getElem_cons_succ]; go_simp <;> with_reducible rfl
  simp only [List.setIfInBounds_toArray, List.set_cons_zero, List.set_cons_succ]
  refine takeT (i := 2) (d := 43) (v := ?_) rfl rfl (by kernel_rfl) (by kernel_rfl) (by kernel_rfl) (fun _ _ _ h => h) (Or.inl ⟨rfl, fun w hSw => ?_⟩) (by assumption) ?_
  rotate_left
  · (try dsimp only at hSw); simp only [List.getElem_toArray, List.getElem_cons_zero, List.getElem_cons_succ]; go_simp <;> with_reducible rfl
  simp only [List.setIfInBounds_toArray, List.set_cons_zero, List.set_cons_succ]
  refine takeT (i := 3) (d := 44) (v := ?_) rfl rfl (by kernel_rfl) (by kernel_rfl) (by kernel_rfl) (fun _ _ _ h => h) (Or.inl ⟨rfl, fun w hSw => ?_⟩) (by assumption) ?_
  rotate_left
  · (try dsimp only at hSw); simp only [List.getElem_toArray, List.getElem_cons_zero, List.getElem_cons_succ]; go_simp <;> with_reducible rfl
  simp only [List.setIfInBounds_toArray, List.set_cons_zero, List.set_cons_succ]
  refine takeT (i := 4) (d := 45) (v := ?_) rfl rfl (by kernel_rfl) (by kernel_rfl) (by kernel_rfl) (fun _ _ _ h => h) (Or.inl ⟨rfl, fun w hSw => ?_⟩) (by assumption) ?_
  rotate_left
  · (try dsimp only at hSw); simp only [List.getElem_toArray, List.getElem_cons_zero, List.getElem_cons_succ]; go_simp <;> with_reducible rfl
  simp only [List.setIfInBounds_toArray, List.set_cons_zero, List.set_cons_succ]
  refine takeT (i := 5) (d := 46) (v := ?_) rfl rfl (by kernel_rfl) (by kernel_rfl) (by kernel_rfl) (fun _ _ _ h => h) (Or.inl ⟨rfl, fun w hSw => ?_⟩) (by assumption) ?_
  rotate_left
  · (try dsimp only at hSw); simp only [List.getElem_toArray, List.getElem_cons_zero, List.getElem_cons_succ]; go_simp <;> with_reducible rfl
  simp only [List.setIfInBounds_toArray, List.set_cons_zero, List.set_cons_succ]
  refine takeT (i := 6) (d := 47) (v := ?_) rfl rfl (by kernel_rfl) (by kernel_rfl) (by kernel_rfl) (fun _ _ _ h => h) (Or.inl ⟨rfl, fun w hSw => ?_⟩) (by assumption) ?_
  rotate_left
  · (try dsimp only at hSw); simp only [List.getElem_toArray, List.getElem_cons_zero, List.getElem_cons_succ]; go_simp <;> with_reducible rfl
  simp only [List.setIfInBounds_toArray, List.set_cons_zero, List.set_cons_succ]
  refine takeT (i := 7) (d := 48) (v := ?_) rfl rfl (by kernel_rfl) (by kernel_rfl) (by kernel_rfl) (fun _ _ _ h => h) (Or.inl ⟨rfl, fun w hSw => ?_⟩) (by assumption) ?_
  rotate_left
  · (try dsimp only at hSw); simp only [List.getElem_toArray, List.getElem_cons_zero, List.getElem_cons_succ]; go_simp <;> with_reducible rfl
  simp only [List.setIfInBounds_toArray, List.set_cons_zero, List.set_cons_succ]
  refine takeT (i := 8) (d := 49) (v := ?_) rfl rfl (by kernel_rfl) (by kernel_rfl) (by kernel_rfl) (fun _ _ _ h => h) (Or.inl ⟨rfl, fun w hSw => ?_⟩) (by assumption) ?_
  rotate_left
  · (try dsimp only at hSw); simp only [List.getElem_toArray, List.getElem_cons_zero, List.getElem_cons_succ]; go_simp <;> with_reducible rfl
  simp only [List.setIfInBounds_toArray, List.set_cons_zero, List.set_cons_succ]
  refine takeT (i := 9) (d := 50) (v := ?_) rfl rfl (by kernel_rfl) (by kernel_rfl) (by kernel_rfl) (fun _ _ _ h => h) (Or.inl ⟨rfl, fun w hSw => ?_⟩) (by assumption) ?_
  rotate_left
  · (try dsimp only at hSw); simp only [List.getElem_toArray, List.getElem_cons_zero, List.getElem_cons_succ]; go_simp <;> with_reducible rfl
  simp only [List.setIfInBounds_toArray, List.set_cons_zero, List.set_cons_succ]
  refine takeT (i := 10) (d := 51) (v := ?_) rfl rfl (by kernel_rfl) (by kernel_rfl) (by kernel_rfl) (fun _ _ _ h => h) (Or.inl ⟨rfl, fun w hSw => ?_⟩) (by assumption) ?_
  rotate_left
  · (try dsimp only at hSw); simp only [List.getElem_toArray, List.getElem_cons_zero, List.getElem_cons_succ]; go_simp <;> with_reducible rfl
  simp only [List.setIfInBounds_toArray, List.set_cons_zero, List.set_cons_succ]
  refine takeT (i := 11) (d := 8) (v := ?_) rfl rfl (by kernel_rfl) (by kernel_rfl) (by kernel_rfl) (fun _ _ _ h => h) (Or.inl ⟨rfl, fun w hSw => ?_⟩) (by assumption) ?_
  rotate_left
  · (try dsimp only at hSw); simp only [List.getElem_toArray, List.getElem_cons_zero, List.getElem_cons_succ]; go_simp <;> with_reducible rfl
  simp only [List.setIfInBounds_toArray, List.set_cons_zero, List.set_cons_succ]
  refine wpAnyH_done (by kernel_rfl) ?_ _
  go_wp2_with (go_at_call 87; refine (within_at _ _ _ _).mono ?_; rintro e w' ⟨rfl, rfl⟩)
  rw [rounds_succ]
  go_wp2_with (go_at_call 87; refine (within_at _ _ _ _).mono ?_; rintro e w' ⟨rfl, rfl⟩)
  rw [rounds_succ]
  go_wp2_with (first | (go_at_call 87; refine (within_at _ _ _ _).mono ?_; rintro e w' ⟨rfl, rfl⟩) | (go_at_call 130; refine (floor_p _ (by decide) _).mono ?_; rintro e w' ⟨rfl, rfl⟩))
  rw [rounds_succ]
  go_wp2
  have hl := own_lit (w.alloc (.cells #[.int .i64 0, .int .i64 100, .int .i64 200] 76)) w.heap.size 3 .i64 [70, 20] (by simp) (by simp)
  simp only [World.size_alloc] at hl
  go_ret
  exact ⟨_, rfl, own_drew (own_drew hl), below_drew (below_drew (below_alloc (below_alloc (Below.refl _ _) _) _))⟩
end Go.Proofs.Ytbijfhmpafjceaa.E
