import Derived.Test.YtbijfhmpafjceaaE8
import Derived.Lib.SliceRun
set_option linter.unusedVariables false
set_option linter.unusedSimpArgs false
namespace Go.Proofs.Ytbijfhmpafjceaa.E
open Go.RowKit Go.Proofs.YtbijfhmpafjceaaW.PrintWords Go.Proofs.YtbijfhmpafjceaaW.PrintMore Go.Proofs.Ytbijfhmpafjceaa.PFlatKept

theorem eql22 (w : World) (a : Option Addr) (n c : Nat) : (binOp .eql 22 (.slice a n c) (.slice none 0 0)).run Try.prog w = .ok (.bool a.isNone) w := by exact Go.Lib.run_eql_slice_nil w 22 3 a n c 0 0 Try.underlying22
attribute [local go_sem] eql22

set_option maxRecDepth 100000 in
set_option maxHeartbeats 1200000 in
theorem Clone_any (A0 : Option Addr) (c0 : Nat) (l0 : List Int) (w : World) (hr0 : Kd.C (Kd.int .i64) w A0 l0.length l0) (hl0 : 1 ≤ l0.length) (hl1 : l0.length ≤ 1000) :
    Calls Try.prog 36 #[.slice A0 l0.length c0] w fun e w' => ∃ v0_ : Value, e = .returned v0_ ∧ w'.ownsRow w.heap.size 3 1 v0_ l0.length (nums .i64 l0) ∧ Below w.heap.size w w' := by
  have HR := Aside0.mk hr0
  obtain ⟨ad, hA⟩ : ∃ ad, A0 = some ad := by
    rcases A0 with _ | ad
    · obtain ⟨ad, h, _⟩ := hr0.2.2 (by omega); cases h
    · exact ⟨ad, rfl⟩
  subst hA
  clear hr0
  go_enter Try.func36, Try.ntmps36
  go_wp2_with (at_builtin; (refine print_append_row (w0 := w) w.heap.size rfl _ _ 22 3 .i64 8 rfl Try.underlying22 info3 (by decide) _ [] l0 _ _ _ rfl rfl (own_lit w w.heap.size 3 .i64 [] (Nat.le_refl _) (by simp)) (readsInt_of.2 (Kd.reads_of_C (d := (0 : Int)) (h1 := fun _ => rfl) (Kd.C_below HR.out (below_alloc (Below.refl _ _) _)))) (below_alloc (Below.refl _ _) _) (by simp) (by simp; omega) ?_; intro v1 w1 hown hB hg hat))
  go_ret
  exact ⟨_, rfl, by simpa using hown, hB⟩

set_option maxHeartbeats 1200000 in
theorem open_any (A0 A1 : Option Addr) (c0 c1 : Nat) (t : List Int) (acts : List S39) (w : World) (hr0 : Kd.C (Kd.int .i64) w A0 t.length t) (hr1 : Kd.C k39 w A1 acts.length acts) (hc1 : acts.length ≤ c1) :
    Calls Try.prog 33 #[.agg #[.slice A0 t.length c0, .slice A1 acts.length c1]] w fun e w' => e = .returned (.tuple #[.agg #[.slice A0 t.length c0, .slice A1 acts.length c1], .int .i64 (rulesE t acts).2]) ∧ Below w.heap.size w w' := by
  have HX := Aside0.mk (fun W (hW : Below w.heap.size w W) => CheckRules_any A0 A1 c0 c1 t acts W (Kd.C_below hr0 hW) (Kd.C_below hr1 hW) hc1)
  clear hr0 hr1
  go_enter Try.func33, Try.ntmps33
  go_wp2_with (go_at_call 79; refine (HX.out _ (by repeat (first | exact Below.refl _ _ | apply below_drew | apply below_alloc | apply pw_below_drewN))).mono ?_; rintro e w3 ⟨rfl, hb⟩; have k0 : w3.cell? ⟨w.heap.size, 0, none⟩ = some (.slice A0 t.length c0) := (hb.cell (p := ⟨w.heap.size, 0, none⟩) (by simp <;> omega)).trans (by simp [go_sem, World.cell?_alloc_past]); have k1 : w3.cell? ⟨w.heap.size, 1, none⟩ = some (.slice A1 acts.length c1) := (hb.cell (p := ⟨w.heap.size, 1, none⟩) (by simp <;> omega)).trans (by simp [go_sem, World.cell?_alloc_past]); have k2 : w3.cell? ⟨w.heap.size + 1, 0, none⟩ = some (.slice none 0 0) := (hb.cell (p := ⟨w.heap.size + 1, 0, none⟩) (by simp <;> omega)).trans (by simp [go_sem, World.cell?_alloc_past]); have k3 : w3.cell? ⟨w.heap.size + 1, 1, none⟩ = some (.slice none 0 0) := (hb.cell (p := ⟨w.heap.size + 1, 1, none⟩) (by simp <;> omega)).trans (by simp [go_sem, World.cell?_alloc_past]); have f2 : w3.frozen? ⟨w.heap.size + 1, 0, none⟩ = false := (hb.frozen (p := ⟨w.heap.size + 1, 0, none⟩) (by simp <;> omega)).trans (by simp [go_sem, World.cell?_alloc_past]); have f3 : w3.frozen? ⟨w.heap.size + 1, 1, none⟩ = false := (hb.frozen (p := ⟨w.heap.size + 1, 1, none⟩) (by simp <;> omega)).trans (by simp [go_sem, World.cell?_alloc_past]))
  have hK : w3.heap[w.heap.size + 1]? = some (.cells #[.slice none 0 0, .slice none 0 0] 81 (0, 0)) := blk_below (by have := blk_new (w.alloc (.cells #[.slice A0 t.length c0, .slice A1 acts.length c1] 25)) (.cells #[.slice none 0 0, .slice none 0 0] 81); rwa [World.size_alloc] at this) hb
  refine bodyPost_ret (results_ct rfl _ _ (w.heap.size + 1) 81 #[.slice A0 t.length c0, .slice A1 acts.length c1] (0, 0) _ rfl (by
    refine blk_put (cs := #[.slice A0 t.length c0, .slice none 0 0]) ?_ 1 _ rfl
    exact blk_put hK 0 _ rfl) Try.underlying81 rfl (by kernel_rfl)) rfl ?_
  exact ⟨rfl, below_set (below_set ((((below_alloc (below_alloc (Below.refl _ _) _) _)).trans (hb.mono (by simp; omega)))) (by omega)) (by omega)⟩

/-- The error of a tolerance. -/
def tolE (n : Int) : Int := unl (decide (0 ≤ n) && decide (n ≤ 100000)) 2
theorem tolErr_any (n : Int) (w : World) : Calls Try.prog 91 #[.int .i64 n] w fun e w' => e = .returned (.int .i64 (tolE n)) ∧ ∃ q, w' = w.drewN q := by
  refine (flat_toleranceErr.calls n (tolE n) w ?_).mono fun e w' h => ⟨h.1, h.2.out⟩
  unfold flat_toleranceErr.f flat_within.f flat_unless.f tolE unl
  by_cases h1 : 0 ≤ n <;> by_cases h2 : n ≤ 100000 <;> simp [h1, h2]

set_option maxHeartbeats 1200000 in
theorem openTol_any (A0 A1 : Option Addr) (c0 c1 : Nat) (t : List Int) (acts : List S39) (n : Int) (w : World) (hr0 : Kd.C (Kd.int .i64) w A0 t.length t) (hr1 : Kd.C k39 w A1 acts.length acts) (hc1 : acts.length ≤ c1) :
    Calls Try.prog 37 #[.agg #[.slice A0 t.length c0, .slice A1 acts.length c1], .int .i64 n] w fun e w' => e = .returned (.tuple #[.agg #[.slice A0 t.length c0, .slice A1 acts.length c1], .int .i64 (fst1 [(rulesE t acts).2, tolE n])]) ∧ Below w.heap.size w w' := by
  have HX := Aside0.mk (fun W (hW : Below w.heap.size w W) => open_any A0 A1 c0 c1 t acts W (Kd.C_below hr0 hW) (Kd.C_below hr1 hW) hc1)
  clear hr0 hr1
  go_enter Try.func37, Try.ntmps37
  go_wp2_with (go_at_call 33; refine (HX.out _ (by repeat (first | exact Below.refl _ _ | apply below_drew | apply below_alloc | apply pw_below_drewN))).mono ?_; rintro e w2 ⟨rfl, hb⟩; have k2 : w2.cell? ⟨w.heap.size + 1, 0, none⟩ = some (.slice none 0 0) := (hb.cell (p := ⟨w.heap.size + 1, 0, none⟩) (by simp <;> omega)).trans (by simp [go_sem, World.cell?_alloc_past]); have k3 : w2.cell? ⟨w.heap.size + 1, 1, none⟩ = some (.slice none 0 0) := (hb.cell (p := ⟨w.heap.size + 1, 1, none⟩) (by simp <;> omega)).trans (by simp [go_sem, World.cell?_alloc_past]); have f2 : w2.frozen? ⟨w.heap.size + 1, 0, none⟩ = false := (hb.frozen (p := ⟨w.heap.size + 1, 0, none⟩) (by simp <;> omega)).trans (by simp [go_sem, World.cell?_alloc_past]); have f3 : w2.frozen? ⟨w.heap.size + 1, 1, none⟩ = false := (hb.frozen (p := ⟨w.heap.size + 1, 1, none⟩) (by simp <;> omega)).trans (by simp [go_sem, World.cell?_alloc_past]); have hlt : w.heap.size + 1 < w2.heap.size := (by have := hb.size; simp at this; omega); have hlt2 : w.heap.size < w2.heap.size := (by omega))
  refine wp_region_held_drew (S := (fun w' => w'.cell? ⟨w2.heap.size, 0, none⟩ = some (.slice A0 t.length c0) ∧ w'.cell? ⟨w2.heap.size, 1, none⟩ = some (.slice A1 acts.length c1))) (by kernel_rfl) ?_ (fun hHeld => ?_)
  · simp [go_sem, World.cell?_alloc_past]
  refine takeT (i := 0) (d := 13) (v := ?_) rfl rfl (by kernel_rfl) (by kernel_rfl) (by kernel_rfl) (fun _ _ _ h => h) (Or.inl ⟨rfl, fun w hSw => ?_⟩) (by assumption) ?_
  rotate_left
  · (try dsimp only at hSw); simp only [List.getElem_toArray, List.getElem_cons_zero, List.getElem_cons_succ]; go_simp <;> with_reducible rfl
  simp only [List.setIfInBounds_toArray, List.set_cons_zero, List.set_cons_succ]
  refine takeT (i := 1) (d := 14) (v := ?_) rfl rfl (by kernel_rfl) (by kernel_rfl) (by kernel_rfl) (fun _ _ _ h => h) (Or.inl ⟨rfl, fun w hSw => ?_⟩) (by assumption) ?_
  rotate_left
  · (try dsimp only at hSw); simp only [List.getElem_toArray, List.getElem_cons_zero, List.getElem_cons_succ]; go_simp <;> with_reducible rfl
  simp only [List.setIfInBounds_toArray, List.set_cons_zero, List.set_cons_succ]
  refine takeT (i := 2) (d := 15) (v := ?_) rfl rfl (by kernel_rfl) (by kernel_rfl) (by kernel_rfl) (fun _ _ _ h => h) (Or.inl ⟨rfl, fun w hSw => ?_⟩) (by assumption) ?_
  rotate_left
  · (try dsimp only at hSw); simp only [List.getElem_toArray, List.getElem_cons_zero, List.getElem_cons_succ]; go_simp <;> with_reducible rfl
  simp only [List.setIfInBounds_toArray, List.set_cons_zero, List.set_cons_succ]
  refine wpAnyH_ready (rs := [3]) (by kernel_rfl) (by simp) ?_
  refine AllReadyH.cons rfl (fun K hK => ?_) ?_
  · simp only [List.getElem_toArray, List.getElem_cons_zero, List.getElem_cons_succ]; go_simp
    refine (tolErr_any _ _).mono ?_; rintro e w' ⟨rfl, q1, rfl⟩
    refine hK.out _ _ ?_ ?_
    · simp [go_sem, World.cell?_alloc_past]
    clear hHeld hK K; intro hHeld
    try simp only [Act.put, List.setIfInBounds_toArray, List.set_cons_zero, List.set_cons_succ]
    refine wpAnyH_ready (rs := [4]) (by kernel_rfl) (by simp) ?_
    refine AllReadyH.cons rfl (fun K hK => ?_) ?_
    · simp only [List.getElem_toArray, List.getElem_cons_zero, List.getElem_cons_succ]; go_simp
      refine hK.out _ _ ?_ ?_
      · simp [go_sem, World.cell?_alloc_past]
      clear hHeld hK K; intro hHeld
      try simp only [Act.put, List.setIfInBounds_toArray, List.set_cons_zero, List.set_cons_succ]
      refine wpAnyH_ready (rs := [5]) (by kernel_rfl) (by simp) ?_
      refine AllReadyH.cons rfl (fun K hK => ?_) ?_
      · simp only [List.getElem_toArray, List.getElem_cons_zero, List.getElem_cons_succ]; go_simp
        refine (first2 _ _ _ _ (by simp)).mono ?_; rintro e w' ⟨rfl, q, rfl⟩
        refine hK.out _ _ ?_ ?_
        · simp [go_sem, World.cell?_alloc_past]
        clear hHeld hK K; intro hHeld
        try simp only [Act.put, List.setIfInBounds_toArray, List.set_cons_zero, List.set_cons_succ]
        refine wpAnyH_ready (rs := [6]) (by kernel_rfl) (by simp) ?_
        refine AllReadyH.cons rfl (fun K hK => ?_) ?_
        · simp only [List.getElem_toArray, List.getElem_cons_zero, List.getElem_cons_succ]; go_simp
          refine hK.out _ _ ?_ ?_
          · simp [go_sem, World.cell?_alloc_past]
          clear hHeld hK K; intro hHeld
          try simp only [Act.put, List.setIfInBounds_toArray, List.set_cons_zero, List.set_cons_succ]
          refine takeT (i := 7) (d := 5) (v := ?_) rfl rfl (by kernel_rfl) (by kernel_rfl) (by kernel_rfl) (fun _ _ _ h => h) (Or.inl ⟨rfl, fun w hSw => ?_⟩) (by assumption) ?_
          rotate_left
          · (try dsimp only at hSw); simp only [List.getElem_toArray, List.getElem_cons_zero, List.getElem_cons_succ]; go_simp <;> with_reducible rfl
          simp only [List.setIfInBounds_toArray, List.set_cons_zero, List.set_cons_succ]
          refine wpAnyH_done (by kernel_rfl) ?_ _
          go_wp2
          have hK : w2.heap[w.heap.size + 1]? = some (.cells #[.slice none 0 0, .slice none 0 0] 81 (0, 0)) := blk_below (by have := blk_new (w.alloc (.cells #[.slice A0 t.length c0, .slice A1 acts.length c1] 25)) (.cells #[.slice none 0 0, .slice none 0 0] 81); rwa [World.size_alloc] at this) hb
          refine bodyPost_ret (results_ct rfl _ _ (w.heap.size + 1) 81 #[.slice A0 t.length c0, .slice A1 acts.length c1] (0, 0) _ rfl (by
            refine blk_put (cs := #[.slice A0 t.length c0, .slice none 0 0]) ?_ 1 _ rfl
            refine blk_put (cs := #[.slice none 0 0, .slice none 0 0]) ?_ 0 _ rfl
            refine blk_drewN (blk_alloc (blk_drewN (blk_alloc hK _) _) _) _) Try.underlying81 rfl (by kernel_rfl)) rfl ?_
          exact ⟨rfl, below_set (below_set (pw_below_drewN (below_alloc (pw_below_drewN (below_alloc (((below_alloc (below_alloc (Below.refl _ _) _) _)).trans (hb.mono (by simp; omega))) _) _) _) _) (by omega)) (by omega)⟩
        exact AllReadyH.nil
      exact AllReadyH.nil
    exact AllReadyH.nil
  exact AllReadyH.nil

end Go.Proofs.Ytbijfhmpafjceaa.E
