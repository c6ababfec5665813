import Derived.Test.YtbijfhmpafjceaaE17
set_option linter.unusedVariables false
set_option linter.unusedSimpArgs false
namespace Go.Proofs.Ytbijfhmpafjceaa.E
open Go.RowKit Go.Proofs.YtbijfhmpafjceaaW.PrintWords Go.Proofs.YtbijfhmpafjceaaW.PrintMore Go.Proofs.Ytbijfhmpafjceaa.PFlatKept

theorem rate1 (x : Int) (w : World) : Calls Try.prog 86 #[.int .i64 x] w fun e w' => e = .returned (.bool (inR 0 1000 x)) ∧ w = w' := by
  go_enter Try.func86, Try.ntmps86
  go_wp2_with (go_at_call 87; refine (within_at _ _ _ _).mono ?_; rintro e w' ⟨rfl, rfl⟩)
  go_ret
  exact ⟨rfl, rfl⟩
theorem eg86 : ∀ args w, (callFunc 86 args).run Try.prog w = .ok (.enter 86 args) w := enters_of Try.func86 (by kernel_rfl) rfl

set_option maxRecDepth 100000 in
set_option maxHeartbeats 1200000 in
theorem HeatedBy_at (A : Option Addr) (c : Nat) (w : World) (hr : Kd.C (Kd.int .i64) w A 2 [100, 0]) :
    Calls Try.prog 28 #[.slice A 2 c, .agg #[.int .i64 0, .int .i64 100, .int .i64 200], .int .i64 1] w fun e w' => ∃ v, e = .returned (.tuple #[v, .int .i64 0]) ∧ w'.ownsRow w.heap.size 3 1 v 2 (nums .i64 [70, 20]) ∧ Below w.heap.size w w' := by
  have HR := Aside0.mk hr
  clear hr
  have SZ := Aside0.mk (fun W => sized_any 100000 W (by decide) (by decide))
  have hu76 := Try.underlying76
  have he := eg86
  have i1 : sml 100000 0 = true := by decide
  have i2 : inR 0 1000 100 = true := by decide
  have i3 : inR 0 1000 200 = true := by decide
  have i4 : inR 0 200 1 = true := by decide
  go_enter Try.func28, Try.ntmps28
  go_wp2
  refine wp_region_held_drew (S := (fun w' => w'.cell? ⟨w.heap.size, 0, none⟩ = some (.int .i64 0) ∧ w'.cell? ⟨w.heap.size, 1, none⟩ = some (.int .i64 100) ∧ w'.cell? ⟨w.heap.size, 2, none⟩ = some (.int .i64 200))) (by kernel_rfl) ?_ (fun hHeld => ?_)
  · simp_all [go_sem, World.cell?_alloc_past]
  refine takeT (i := 0) (d := 12) (v := ?_) rfl rfl (by kernel_rfl) (by kernel_rfl) (by kernel_rfl) (fun _ _ _ h => h) (Or.inl ⟨rfl, fun w hSw => ?_⟩) (by assumption) ?_
  rotate_left
  · (try dsimp only at hSw); simp only [List.getElem_toArray, List.getElem_cons_zero, List.getElem_cons_succ]; go_simp <;> with_reducible rfl
  simp only [List.setIfInBounds_toArray, List.set_cons_zero, List.set_cons_succ]
  refine takeT (i := 1) (d := 13) (v := ?_) rfl rfl (by kernel_rfl) (by kernel_rfl) (by kernel_rfl) (fun _ _ _ h => h) (Or.inl ⟨rfl, fun w hSw => ?_⟩) (by assumption) ?_
  rotate_left
  · (try dsimp only at hSw); simp only [List.getElem_toArray, List.getElem_cons_zero, List.getElem_cons_succ]; go_simp <;> with_reducible rfl
  simp only [List.setIfInBounds_toArray, List.set_cons_zero, List.set_cons_succ]
  refine takeT (i := 2) (d := 14) (v := ?_) rfl rfl (by kernel_rfl) (by kernel_rfl) (by kernel_rfl) (fun _ _ _ h => h) (Or.inl ⟨rfl, fun w hSw => ?_⟩) (by assumption) ?_
  rotate_left
  · (try dsimp only at hSw); simp only [List.getElem_toArray, List.getElem_cons_zero, List.getElem_cons_succ]; go_simp <;> with_reducible rfl
  simp only [List.setIfInBounds_toArray, List.set_cons_zero, List.set_cons_succ]
  refine takeT (i := 4) (d := 16) (v := ?_) rfl rfl (by kernel_rfl) (by kernel_rfl) (by kernel_rfl) (fun _ _ _ h => h) (Or.inl ⟨rfl, fun w hSw => ?_⟩) (by assumption) ?_
  rotate_left
  · (try dsimp only at hSw); simp only [List.getElem_toArray, List.getElem_cons_zero, List.getElem_cons_succ]; go_simp <;> with_reducible rfl
  simp only [List.setIfInBounds_toArray, List.set_cons_zero, List.set_cons_succ]
  refine takeT (i := 5) (d := 17) (v := ?_) rfl rfl (by kernel_rfl) (by kernel_rfl) (by kernel_rfl) (fun _ _ _ h => h) (Or.inl ⟨rfl, fun w hSw => ?_⟩) (by assumption) ?_
  rotate_left
  · (try dsimp only at hSw); simp only [List.getElem_toArray, List.getElem_cons_zero, List.getElem_cons_succ]; go_simp <;> with_reducible rfl
  simp only [List.setIfInBounds_toArray, List.set_cons_zero, List.set_cons_succ]
  refine takeT (i := 6) (d := 18) (v := ?_) rfl rfl (by kernel_rfl) (by kernel_rfl) (by kernel_rfl) (fun _ _ _ h => h) (Or.inl ⟨rfl, fun w hSw => ?_⟩) (by assumption) ?_
  rotate_left
  · (try dsimp only at hSw); simp only [List.getElem_toArray, List.getElem_cons_zero, List.getElem_cons_succ]; go_simp <;> with_reducible rfl
  simp only [List.setIfInBounds_toArray, List.set_cons_zero, List.set_cons_succ]
  refine takeT (i := 8) (d := 20) (v := ?_) rfl rfl (by kernel_rfl) (by kernel_rfl) (by kernel_rfl) (fun _ _ _ h => h) (Or.inl ⟨rfl, fun w hSw => ?_⟩) (by assumption) ?_
  rotate_left
  · (try dsimp only at hSw); simp only [List.getElem_toArray, List.getElem_cons_zero, List.getElem_cons_succ]; go_simp <;> with_reducible rfl
  simp only [List.setIfInBounds_toArray, List.set_cons_zero, List.set_cons_succ]
  refine takeT (i := 11) (d := 23) (v := ?_) rfl rfl (by kernel_rfl) (by kernel_rfl) (by kernel_rfl) (fun _ _ _ h => h) (Or.inl ⟨rfl, fun w hSw => ?_⟩) (by assumption) ?_
  rotate_left
  · (try dsimp only at hSw); simp only [List.getElem_toArray, List.getElem_cons_zero, List.getElem_cons_succ]; go_simp <;> with_reducible rfl
  simp only [List.setIfInBounds_toArray, List.set_cons_zero, List.set_cons_succ]
  refine takeT (i := 12) (d := 24) (v := ?_) rfl rfl (by kernel_rfl) (by kernel_rfl) (by kernel_rfl) (fun _ _ _ h => h) (Or.inl ⟨rfl, fun w hSw => ?_⟩) (by assumption) ?_
  rotate_left
  · (try dsimp only at hSw); simp only [List.getElem_toArray, List.getElem_cons_zero, List.getElem_cons_succ]; go_simp <;> with_reducible rfl
  simp only [List.setIfInBounds_toArray, List.set_cons_zero, List.set_cons_succ]
  refine wpAnyH_ready (rs := [3]) (by kernel_rfl) (by simp) ?_
  refine AllReadyH.cons rfl (fun K hK => ?_) ?_
  · simp only [List.getElem_toArray, List.getElem_cons_zero, List.getElem_cons_succ]; go_simp
    refine (unless_any _ _ _).mono ?_; rintro e w' ⟨rfl, rfl⟩
    refine hK.out _ _ ?_ ?_
    · simp_all [go_sem, World.cell?_alloc_past]
    clear hHeld hK K; intro hHeld
    try simp only [Act.put, List.setIfInBounds_toArray, List.set_cons_zero, List.set_cons_succ]
    refine wpAnyH_ready (rs := [7]) (by kernel_rfl) (by simp) ?_
    refine AllReadyH.cons rfl (fun K hK => ?_) ?_
    · simp only [List.getElem_toArray, List.getElem_cons_zero, List.getElem_cons_succ]; go_simp
      refine (unless_any _ _ _).mono ?_; rintro e w' ⟨rfl, rfl⟩
      refine hK.out _ _ ?_ ?_
      · simp_all [go_sem, World.cell?_alloc_past]
      clear hHeld hK K; intro hHeld
      try simp only [Act.put, List.setIfInBounds_toArray, List.set_cons_zero, List.set_cons_succ]
      refine wpAnyH_ready (rs := [9]) (by kernel_rfl) (by simp) ?_
      refine AllReadyH.cons rfl (fun K hK => ?_) ?_
      · simp only [List.getElem_toArray, List.getElem_cons_zero, List.getElem_cons_succ]; go_simp
        refine (SZ.out _).mono ?_; rintro e w' ⟨rfl, rfl⟩
        refine hK.out _ _ ?_ ?_
        · simp_all [go_sem, World.cell?_alloc_past]
        clear hHeld hK K; intro hHeld
        try simp only [Act.put, List.setIfInBounds_toArray, List.set_cons_zero, List.set_cons_succ]
        refine wpAnyH_ready (rs := [10]) (by kernel_rfl) (by simp) ?_
        refine AllReadyH.cons rfl (fun K hK => ?_) ?_
        · simp only [List.getElem_toArray, List.getElem_cons_zero, List.getElem_cons_succ]; go_simp
          refine (all_any 128 _ (sml 100000) A c [100, 0] 2 _ (Kd.C_below HR.out (by repeat (first | exact Below.refl _ _ | apply below_drew | apply below_alloc))) (pred_sized 100000 _ (by decide) (by decide) _ (by simp) (by simp)) eg128).mono ?_; rintro e w' ⟨rfl, rfl⟩
          refine hK.out _ _ ?_ ?_
          · simp_all [go_sem, World.cell?_alloc_past]
          clear hHeld hK K; intro hHeld
          try simp only [Act.put, List.setIfInBounds_toArray, List.set_cons_zero, List.set_cons_succ]
          refine wpAnyH_ready (rs := [13]) (by kernel_rfl) (by simp) ?_
          refine AllReadyH.cons rfl (fun K hK => ?_) ?_
          · simp only [List.getElem_toArray, List.getElem_cons_zero, List.getElem_cons_succ]; go_simp
            refine (small_any _ _ _ (by decide) (by decide)).mono ?_; rintro e w' ⟨rfl, rfl⟩
            refine hK.out _ _ ?_ ?_
            · simp_all [go_sem, World.cell?_alloc_past]
            clear hHeld hK K; intro hHeld
            try simp only [Act.put, List.setIfInBounds_toArray, List.set_cons_zero, List.set_cons_succ]
            refine takeT (i := 14) (d := 26) (v := ?_) rfl rfl (by kernel_rfl) (by kernel_rfl) (by kernel_rfl) (fun _ _ _ h => h) (Or.inl ⟨rfl, fun w hSw => ?_⟩) (by assumption) ?_
            rotate_left
            · (try dsimp only at hSw); simp only [List.getElem_toArray, List.getElem_cons_zero, List.getElem_cons_succ]; go_simp <;> with_reducible rfl
            simp only [List.setIfInBounds_toArray, List.set_cons_zero, List.set_cons_succ]
            refine takeT (i := 15) (d := 27) (v := ?_) rfl rfl (by kernel_rfl) (by kernel_rfl) (by kernel_rfl) (fun _ _ _ h => h) (Or.inl ⟨rfl, fun w hSw => ?_⟩) (by assumption) ?_
            rotate_left
            · (try dsimp only at hSw); simp only [List.getElem_toArray, List.getElem_cons_zero, List.getElem_cons_succ]; go_simp <;> with_reducible rfl
            simp only [List.setIfInBounds_toArray, List.set_cons_zero, List.set_cons_succ]
            refine takeT (i := 16) (d := 28) (v := ?_) rfl rfl (by kernel_rfl) (by kernel_rfl) (by kernel_rfl) (fun _ _ _ h => h) (Or.inl ⟨rfl, fun w hSw => ?_⟩) (by assumption) ?_
            rotate_left
            · (try dsimp only at hSw); simp only [List.getElem_toArray, List.getElem_cons_zero, List.getElem_cons_succ]; go_simp <;> with_reducible rfl
            simp only [List.setIfInBounds_toArray, List.set_cons_zero, List.set_cons_succ]
            refine takeT (i := 17) (d := 29) (v := ?_) rfl rfl (by kernel_rfl) (by kernel_rfl) (by kernel_rfl) (fun _ _ _ h => h) (Or.inl ⟨rfl, fun w hSw => ?_⟩) (by assumption) ?_
            rotate_left
            · (try dsimp only at hSw); simp only [List.getElem_toArray, List.getElem_cons_zero, List.getElem_cons_succ]; go_simp <;> with_reducible rfl
            simp only [List.setIfInBounds_toArray, List.set_cons_zero, List.set_cons_succ]
            refine wpAnyH_ready (rs := [18]) (by kernel_rfl) (by simp) ?_
            refine AllReadyH.cons rfl (fun K hK => ?_) ?_
            · simp only [List.getElem_toArray, List.getElem_cons_zero, List.getElem_cons_succ]; go_simp
              refine (rate1 _ _).mono ?_; rintro e w' ⟨rfl, rfl⟩
              refine hK.out _ _ ?_ ?_
              · simp_all [go_sem, World.cell?_alloc_past]
              clear hHeld hK K; intro hHeld
              try simp only [Act.put, List.setIfInBounds_toArray, List.set_cons_zero, List.set_cons_succ]
              refine takeT (i := 19) (d := 31) (v := ?_) rfl rfl (by kernel_rfl) (by kernel_rfl) (by kernel_rfl) (fun _ _ _ h => h) (Or.inl ⟨rfl, fun w hSw => ?_⟩) (by assumption) ?_
              rotate_left
              · (try dsimp only at hSw); simp only [List.getElem_toArray, List.getElem_cons_zero, List.getElem_cons_succ]; go_simp <;> with_reducible rfl
              simp only [List.setIfInBounds_toArray, List.set_cons_zero, List.set_cons_succ]
              refine takeT (i := 20) (d := 32) (v := ?_) rfl rfl (by kernel_rfl) (by kernel_rfl) (by kernel_rfl) (fun _ _ _ h => h) (Or.inl ⟨rfl, fun w hSw => ?_⟩) (by assumption) ?_
              rotate_left
              · (try dsimp only at hSw); simp only [List.getElem_toArray, List.getElem_cons_zero, List.getElem_cons_succ]; go_simp <;> with_reducible rfl
              simp only [List.setIfInBounds_toArray, List.set_cons_zero, List.set_cons_succ]
              refine takeT (i := 21) (d := 33) (v := ?_) rfl rfl (by kernel_rfl) (by kernel_rfl) (by kernel_rfl) (fun _ _ _ h => h) (Or.inl ⟨rfl, fun w hSw => ?_⟩) (by assumption) ?_
              rotate_left
              · (try dsimp only at hSw); simp only [List.getElem_toArray, List.getElem_cons_zero, List.getElem_cons_succ]; go_simp <;> with_reducible rfl
              simp only [List.setIfInBounds_toArray, List.set_cons_zero, List.set_cons_succ]
              refine takeT (i := 22) (d := 34) (v := ?_) rfl rfl (by kernel_rfl) (by kernel_rfl) (by kernel_rfl) (fun _ _ _ h => h) (Or.inl ⟨rfl, fun w hSw => ?_⟩) (by assumption) ?_
              rotate_left
              · (try dsimp only at hSw); simp only [List.getElem_toArray, List.getElem_cons_zero, List.getElem_cons_succ]; go_simp <;> with_reducible rfl
              simp only [List.setIfInBounds_toArray, List.set_cons_zero, List.set_cons_succ]
              refine takeT (i := 23) (d := 35) (v := ?_) rfl rfl (by kernel_rfl) (by kernel_rfl) (by kernel_rfl) (fun _ _ _ h => h) (Or.inl ⟨rfl, fun w hSw => ?_⟩) (by assumption) ?_
              rotate_left
              · (try dsimp only at hSw); simp only [List.getElem_toArray, List.getElem_cons_zero, List.getElem_cons_succ]; go_simp <;> with_reducible rfl
              simp only [List.setIfInBounds_toArray, List.set_cons_zero, List.set_cons_succ]
              refine wpAnyH_ready (rs := [24]) (by kernel_rfl) (by simp) ?_
              refine AllReadyH.cons rfl (fun K hK => ?_) ?_
              · simp only [List.getElem_toArray, List.getElem_cons_zero, List.getElem_cons_succ]; go_simp
                refine (rate1 _ _).mono ?_; rintro e w' ⟨rfl, rfl⟩
                refine hK.out _ _ ?_ ?_
                · simp_all [go_sem, World.cell?_alloc_past]
                clear hHeld hK K; intro hHeld
                try simp only [Act.put, List.setIfInBounds_toArray, List.set_cons_zero, List.set_cons_succ]
                refine takeT (i := 25) (d := 37) (v := ?_) rfl rfl (by kernel_rfl) (by kernel_rfl) (by kernel_rfl) (fun _ _ _ h => h) (Or.inl ⟨rfl, fun w hSw => ?_⟩) (by assumption) ?_
                rotate_left
                · (try dsimp only at hSw); simp only [List.getElem_toArray, List.getElem_cons_zero, List.getElem_cons_succ]; go_simp <;> with_reducible rfl
                simp only [List.setIfInBounds_toArray, List.set_cons_zero, List.set_cons_succ]
                refine wpAnyH_ready (rs := [26]) (by kernel_rfl) (by simp) ?_
                refine AllReadyH.cons rfl (fun K hK => ?_) ?_
                · simp only [List.getElem_toArray, List.getElem_cons_zero, List.getElem_cons_succ]; go_simp
                  refine (unless_any _ _ _).mono ?_; rintro e w' ⟨rfl, rfl⟩
                  refine hK.out _ _ ?_ ?_
                  · simp_all [go_sem, World.cell?_alloc_past]
                  clear hHeld hK K; intro hHeld
                  try simp only [Act.put, List.setIfInBounds_toArray, List.set_cons_zero, List.set_cons_succ]
                  refine wpAnyH_ready (rs := [27]) (by kernel_rfl) (by simp) ?_
                  refine AllReadyH.cons rfl (fun K hK => ?_) ?_
                  · simp only [List.getElem_toArray, List.getElem_cons_zero, List.getElem_cons_succ]; go_simp
                    refine hK.out _ _ ?_ ?_
                    · simp_all [go_sem, World.cell?_alloc_past]
                    clear hHeld hK K; intro hHeld
                    try simp only [Act.put, List.setIfInBounds_toArray, List.set_cons_zero, List.set_cons_succ]
                    refine wpAnyH_ready (rs := [28]) (by kernel_rfl) (by simp) ?_
                    refine AllReadyH.cons rfl (fun K hK => ?_) ?_
                    · simp only [List.getElem_toArray, List.getElem_cons_zero, List.getElem_cons_succ]; go_simp
                      refine (first4d _ _ _ _ _ _ (by simp)).mono ?_; rintro e W2 ⟨rfl, hq⟩; have hB2 : Below w.heap.size w W2 := (by obtain ⟨q, rfl⟩ := hq; exact pw_below_drewN (by repeat (first | exact Below.refl _ _ | apply below_drew | apply below_alloc)) _); have hx2 : W2.heap[w.heap.size]? = some (.cells #[.int .i64 0, .int .i64 100, .int .i64 200] 76 (0, 0)) := (by obtain ⟨q, rfl⟩ := hq; refine blk_drewN ?_ _; refine blk_drew ?_; exact blk_alloc (blk_alloc (blk_alloc (blk_new w _) _) _) _); clear hq; have hl2 := blk_lt hx2; have q0 := blk_cell hx2 0; have q1 := blk_cell hx2 1; have q2 := blk_cell hx2 2; have e0 : fst1 [unl true 10, unl true 8, unl (sml 100000 100) 2, unl true 2] = 0 := (by decide)
                      refine hK.out _ _ ?_ ?_
                      · simp_all [go_sem, World.cell?_alloc_past]
                      clear hHeld hK K; intro hHeld
                      try simp only [Act.put, List.setIfInBounds_toArray, List.set_cons_zero, List.set_cons_succ]
                      refine takeT (i := 29) (d := 9) (v := ?_) rfl rfl (by kernel_rfl) (by kernel_rfl) (by kernel_rfl) (fun _ _ _ h => h) (Or.inl ⟨rfl, fun w hSw => ?_⟩) (by assumption) ?_
                      rotate_left
                      · (try dsimp only at hSw); simp only [List.getElem_toArray, List.getElem_cons_zero, List.getElem_cons_succ]; go_simp <;> with_reducible rfl
                      simp only [List.setIfInBounds_toArray, List.set_cons_zero, List.set_cons_succ]
                      refine wpAnyH_done (by kernel_rfl) ?_ _
                      clear hHeld
                      try rw [e0]
                      clear e0
                      have HB2 := Aside0.mk hB2
                      have HX2 := Aside0.mk hx2
                      clear hB2 hx2
                      go_wp2_with (first | (go_at_call 42; refine (unless_any _ _ _).mono ?_; rintro e w' ⟨rfl, rfl⟩) | (go_at_call 87; refine (within_at _ _ _ _).mono ?_; rintro e w' ⟨rfl, rfl⟩) | (go_at_call 82; refine (first2 _ _ _ _ (by simp)).mono ?_; rintro e W3 ⟨he0, hq⟩; replace he0 := he0.trans (congrArg (fun z : Int => Ending.returned (Value.int .i64 z)) (show (_ : Int) = 0 by decide)); subst he0; have hB3 : Below W2.heap.size W2 W3 := (by obtain ⟨q, rfl⟩ := hq; exact pw_below_drewN (below_alloc (Below.refl _ _) _) _); clear hq; have hx3 := blk_below HX2.out hB3; have hl3 := blk_lt hx3; have r0 := blk_cell hx3 0; have r1 := blk_cell hx3 1; have r2 := blk_cell hx3 2) | (go_at_call 36; refine (Clone_any A c [100, 0] _ (Kd.C_below HR.out (HB2.out.trans (hB3.mono (by have := HB2.out.size; omega)))) (by decide) (by decide)).mono ?_; rintro e W4 ⟨v4, rfl, ho4, hB4⟩))
                      have hx4 := blk_below hx3 hB4
                      have hl4 := blk_lt hx4
                      have s0 := blk_cell hx4 0
                      have s1 := blk_cell hx4 1
                      have s2 := blk_cell hx4 2
                      obtain ⟨g, cap, cur, rfl, hgb, hgc, _⟩ : ∃ g cap cur, v4 = .slice (some ⟨g, 0, none⟩) 2 cap ∧ W3.heap.size ≤ g ∧ W4.heap[g]? = some (.cells cur 3 (0, 0)) ∧ True := by
                        rcases ho4.2 with ⟨_, h⟩ | ⟨g, cap, cur, h1, h2, h3, _⟩
                        · simp at h
                        · exact ⟨g, cap, cur, h1, h2, h3, trivial⟩
                      have c0 := (own_at (n := 2) ho4 0 (by decide) (by decide)).1
                      have c1 := (own_at (n := 2) ho4 1 (by decide) (by decide)).1
                      have BB := Aside0.mk (And.intro HB2.out (And.intro hB3 hB4))
                      clear hx3 hx4 hB3 hB4 q0 q1 q2 r0 r1 r2 hl2 hl3
                      refine wp_loop_rounds 2 ?_
                      rw [rounds_succ]
                      go_wp2_with (go_at_call 89; refine (step_at ⟨g, 0, none⟩ cap _ c0 c1).mono ?_; rintro e W5 ⟨v5, rfl, ho5, hB5⟩)
                      rw [rounds_succ]
                      go_wp2
                      go_ret2
                      have h4 : Below w.heap.size w W4 := (BB.out.1.trans (BB.out.2.1.mono (by have := BB.out.1.size; omega))).trans (BB.out.2.2.mono (by have := BB.out.1.size; have := BB.out.2.1.size; omega))
                      exact ⟨v5, rfl, own_weaken ho5 h4.size, h4.trans (hB5.mono h4.size)⟩
                    exact AllReadyH.nil
                  exact AllReadyH.nil
                exact AllReadyH.nil
              exact AllReadyH.nil
            exact AllReadyH.nil
          exact AllReadyH.nil
        exact AllReadyH.nil
      exact AllReadyH.nil
    exact AllReadyH.nil
  exact AllReadyH.nil
end Go.Proofs.Ytbijfhmpafjceaa.E
