import Derived.Test.YtbijfhmpafjceaaE3
set_option linter.unusedSimpArgs false
set_option linter.unusedVariables false
namespace Go.Proofs.Ytbijfhmpafjceaa.E
open Go.RowKit Go.Proofs.YtbijfhmpafjceaaW.PrintWords Go.Proofs.Ytbijfhmpafjceaa.PFlatKept

def topE (t : List Int) (acts : List S39) : Int := fst1 [unl (decide (0 < t.length)) 10, unl (decide ((t.length : Int) ≤ 9)) 8, unl (t.all (sml 100000)) 2, unl (decide (0 < acts.length)) 10, unl (decide ((acts.length : Int) ≤ 3)) 8]
def actsAt (n : Int) : Nat → List S39 → Int × Int
  | _, [] => (0, 0)
  | i, a :: l => if actE a.f0.f0 a.f0.f1 a.f1 n = 0 then actsAt n (i + 1) l else ((i : Int), actE a.f0.f0 a.f0.f1 a.f1 n)
def rulesE (t : List Int) (acts : List S39) : Int × Int := if topE t acts = 0 then actsAt t.length 0 acts else (0, topE t acts)

set_option maxRecDepth 100000 in
set_option maxHeartbeats 1200000 in
theorem CheckRules_any (A0 A1 : Option Addr) (c0 c1 : Nat) (t : List Int) (acts : List S39) (w : World) (hr0 : Kd.C (Kd.int .i64) w A0 t.length t) (hr1 : Kd.C k39 w A1 acts.length acts) (hc1 : acts.length ≤ c1) :
    Calls Try.prog 79 #[.agg #[.slice A0 t.length c0, .slice A1 acts.length c1]] w fun e w' => e = .returned (.tuple #[.int .i64 (rulesE t acts).1, .int .i64 (rulesE t acts).2]) ∧ Below w.heap.size w w' := by
  have HR0 := Aside0.mk hr0
  have HR1 := Aside0.mk hr1
  clear hr0 hr1
  have SZ := Aside0.mk (fun W => sized_any 100000 W (by decide) (by decide))
  have hu25 := Try.underlying25
  go_enter Try.func79, Try.ntmps79
  go_wp2
  refine wp_region_held_drew (S := (fun w' => w'.cell? ⟨w.heap.size, 0, none⟩ = some (.slice A0 t.length c0) ∧ w'.cell? ⟨w.heap.size, 1, none⟩ = some (.slice A1 acts.length c1))) (by kernel_rfl) ?_ (fun hHeld => ?_)
  · simp [go_sem, World.cell?_alloc_past]
  refine takeT (i := 0) (d := 8) (v := ?_) rfl rfl (by kernel_rfl) (by kernel_rfl) (by kernel_rfl) (fun _ _ _ h => h) (Or.inl ⟨rfl, fun w hSw => ?_⟩) (by assumption) ?_
  rotate_left
  · (try dsimp only at hSw); simp only [List.getElem_toArray, List.getElem_cons_zero, List.getElem_cons_succ]; go_simp <;> with_reducible rfl
  simp only [List.setIfInBounds_toArray, List.set_cons_zero, List.set_cons_succ]
  refine takeT (i := 1) (d := 9) (v := ?_) rfl rfl (by kernel_rfl) (by kernel_rfl) (by kernel_rfl) (fun _ _ _ h => h) (Or.inl ⟨rfl, fun w hSw => ?_⟩) (by assumption) ?_
  rotate_left
  · (try dsimp only at hSw); simp only [List.getElem_toArray, List.getElem_cons_zero, List.getElem_cons_succ]; go_simp <;> with_reducible rfl
  simp only [List.setIfInBounds_toArray, List.set_cons_zero, List.set_cons_succ]
  refine takeT (i := 2) (d := 10) (v := ?_) rfl rfl (by kernel_rfl) (by kernel_rfl) (by kernel_rfl) (fun _ _ _ h => h) (Or.inl ⟨rfl, fun w hSw => ?_⟩) (by assumption) ?_
  rotate_left
  · (try dsimp only at hSw); simp only [List.getElem_toArray, List.getElem_cons_zero, List.getElem_cons_succ]; go_simp <;> with_reducible rfl
  simp only [List.setIfInBounds_toArray, List.set_cons_zero, List.set_cons_succ]
  refine takeT (i := 3) (d := 11) (v := ?_) rfl rfl (by kernel_rfl) (by kernel_rfl) (by kernel_rfl) (fun _ _ _ h => h) (Or.inl ⟨rfl, fun w hSw => ?_⟩) (by assumption) ?_
  rotate_left
  · (try dsimp only at hSw); simp only [List.getElem_toArray, List.getElem_cons_zero, List.getElem_cons_succ]; go_simp <;> with_reducible rfl
  simp only [List.setIfInBounds_toArray, List.set_cons_zero, List.set_cons_succ]
  refine takeT (i := 5) (d := 13) (v := ?_) rfl rfl (by kernel_rfl) (by kernel_rfl) (by kernel_rfl) (fun _ _ _ h => h) (Or.inl ⟨rfl, fun w hSw => ?_⟩) (by assumption) ?_
  rotate_left
  · (try dsimp only at hSw); simp only [List.getElem_toArray, List.getElem_cons_zero, List.getElem_cons_succ]; go_simp <;> with_reducible rfl
  simp only [List.setIfInBounds_toArray, List.set_cons_zero, List.set_cons_succ]
  refine takeT (i := 6) (d := 14) (v := ?_) rfl rfl (by kernel_rfl) (by kernel_rfl) (by kernel_rfl) (fun _ _ _ h => h) (Or.inl ⟨rfl, fun w hSw => ?_⟩) (by assumption) ?_
  rotate_left
  · (try dsimp only at hSw); simp only [List.getElem_toArray, List.getElem_cons_zero, List.getElem_cons_succ]; go_simp <;> with_reducible rfl
  simp only [List.setIfInBounds_toArray, List.set_cons_zero, List.set_cons_succ]
  refine takeT (i := 7) (d := 15) (v := ?_) rfl rfl (by kernel_rfl) (by kernel_rfl) (by kernel_rfl) (fun _ _ _ h => h) (Or.inl ⟨rfl, fun w hSw => ?_⟩) (by assumption) ?_
  rotate_left
  · (try dsimp only at hSw); simp only [List.getElem_toArray, List.getElem_cons_zero, List.getElem_cons_succ]; go_simp <;> with_reducible rfl
  simp only [List.setIfInBounds_toArray, List.set_cons_zero, List.set_cons_succ]
  refine takeT (i := 8) (d := 16) (v := ?_) rfl rfl (by kernel_rfl) (by kernel_rfl) (by kernel_rfl) (fun _ _ _ h => h) (Or.inl ⟨rfl, fun w hSw => ?_⟩) (by assumption) ?_
  rotate_left
  · (try dsimp only at hSw); simp only [List.getElem_toArray, List.getElem_cons_zero, List.getElem_cons_succ]; go_simp <;> with_reducible rfl
  simp only [List.setIfInBounds_toArray, List.set_cons_zero, List.set_cons_succ]
  refine takeT (i := 10) (d := 18) (v := ?_) rfl rfl (by kernel_rfl) (by kernel_rfl) (by kernel_rfl) (fun _ _ _ h => h) (Or.inl ⟨rfl, fun w hSw => ?_⟩) (by assumption) ?_
  rotate_left
  · (try dsimp only at hSw); simp only [List.getElem_toArray, List.getElem_cons_zero, List.getElem_cons_succ]; go_simp <;> with_reducible rfl
  simp only [List.setIfInBounds_toArray, List.set_cons_zero, List.set_cons_succ]
  refine takeT (i := 11) (d := 19) (v := ?_) rfl rfl (by kernel_rfl) (by kernel_rfl) (by kernel_rfl) (fun _ _ _ h => h) (Or.inl ⟨rfl, fun w hSw => ?_⟩) (by assumption) ?_
  rotate_left
  · (try dsimp only at hSw); simp only [List.getElem_toArray, List.getElem_cons_zero, List.getElem_cons_succ]; go_simp <;> with_reducible rfl
  simp only [List.setIfInBounds_toArray, List.set_cons_zero, List.set_cons_succ]
  refine takeT (i := 14) (d := 22) (v := ?_) rfl rfl (by kernel_rfl) (by kernel_rfl) (by kernel_rfl) (fun _ _ _ h => h) (Or.inl ⟨rfl, fun w hSw => ?_⟩) (by assumption) ?_
  rotate_left
  · (try dsimp only at hSw); simp only [List.getElem_toArray, List.getElem_cons_zero, List.getElem_cons_succ]; go_simp <;> with_reducible rfl
  simp only [List.setIfInBounds_toArray, List.set_cons_zero, List.set_cons_succ]
  refine takeT (i := 15) (d := 23) (v := ?_) rfl rfl (by kernel_rfl) (by kernel_rfl) (by kernel_rfl) (fun _ _ _ h => h) (Or.inl ⟨rfl, fun w hSw => ?_⟩) (by assumption) ?_
  rotate_left
  · (try dsimp only at hSw); simp only [List.getElem_toArray, List.getElem_cons_zero, List.getElem_cons_succ]; go_simp <;> with_reducible rfl
  simp only [List.setIfInBounds_toArray, List.set_cons_zero, List.set_cons_succ]
  refine takeT (i := 16) (d := 24) (v := ?_) rfl rfl (by kernel_rfl) (by kernel_rfl) (by kernel_rfl) (fun _ _ _ h => h) (Or.inl ⟨rfl, fun w hSw => ?_⟩) (by assumption) ?_
  rotate_left
  · (try dsimp only at hSw); simp only [List.getElem_toArray, List.getElem_cons_zero, List.getElem_cons_succ]; go_simp <;> with_reducible rfl
  simp only [List.setIfInBounds_toArray, List.set_cons_zero, List.set_cons_succ]
  refine takeT (i := 17) (d := 25) (v := ?_) rfl rfl (by kernel_rfl) (by kernel_rfl) (by kernel_rfl) (fun _ _ _ h => h) (Or.inl ⟨rfl, fun w hSw => ?_⟩) (by assumption) ?_
  rotate_left
  · (try dsimp only at hSw); simp only [List.getElem_toArray, List.getElem_cons_zero, List.getElem_cons_succ]; go_simp <;> with_reducible rfl
  simp only [List.setIfInBounds_toArray, List.set_cons_zero, List.set_cons_succ]
  refine takeT (i := 19) (d := 27) (v := ?_) rfl rfl (by kernel_rfl) (by kernel_rfl) (by kernel_rfl) (fun _ _ _ h => h) (Or.inl ⟨rfl, fun w hSw => ?_⟩) (by assumption) ?_
  rotate_left
  · (try dsimp only at hSw); simp only [List.getElem_toArray, List.getElem_cons_zero, List.getElem_cons_succ]; go_simp <;> with_reducible rfl
  simp only [List.setIfInBounds_toArray, List.set_cons_zero, List.set_cons_succ]
  refine takeT (i := 20) (d := 28) (v := ?_) rfl rfl (by kernel_rfl) (by kernel_rfl) (by kernel_rfl) (fun _ _ _ h => h) (Or.inl ⟨rfl, fun w hSw => ?_⟩) (by assumption) ?_
  rotate_left
  · (try dsimp only at hSw); simp only [List.getElem_toArray, List.getElem_cons_zero, List.getElem_cons_succ]; go_simp <;> with_reducible rfl
  simp only [List.setIfInBounds_toArray, List.set_cons_zero, List.set_cons_succ]
  refine takeT (i := 21) (d := 29) (v := ?_) rfl rfl (by kernel_rfl) (by kernel_rfl) (by kernel_rfl) (fun _ _ _ h => h) (Or.inl ⟨rfl, fun w hSw => ?_⟩) (by assumption) ?_
  rotate_left
  · (try dsimp only at hSw); simp only [List.getElem_toArray, List.getElem_cons_zero, List.getElem_cons_succ]; go_simp <;> with_reducible rfl
  simp only [List.setIfInBounds_toArray, List.set_cons_zero, List.set_cons_succ]
  refine takeT (i := 22) (d := 30) (v := ?_) rfl rfl (by kernel_rfl) (by kernel_rfl) (by kernel_rfl) (fun _ _ _ h => h) (Or.inl ⟨rfl, fun w hSw => ?_⟩) (by assumption) ?_
  rotate_left
  · (try dsimp only at hSw); simp only [List.getElem_toArray, List.getElem_cons_zero, List.getElem_cons_succ]; go_simp <;> with_reducible rfl
  simp only [List.setIfInBounds_toArray, List.set_cons_zero, List.set_cons_succ]
  refine wpAnyH_ready (rs := [4]) (by kernel_rfl) (by simp) ?_
  refine AllReadyH.cons rfl (fun K hK => ?_) ?_
  · simp only [List.getElem_toArray, List.getElem_cons_zero, List.getElem_cons_succ]; go_simp
    refine (unless_any _ _ _).mono ?_; rintro e w' ⟨rfl, rfl⟩
    refine hK.out _ _ ?_ ?_
    · simp [go_sem, World.cell?_alloc_past]
    clear hHeld hK K; intro hHeld
    try simp only [Act.put, List.setIfInBounds_toArray, List.set_cons_zero, List.set_cons_succ]
    refine wpAnyH_ready (rs := [9]) (by kernel_rfl) (by simp) ?_
    refine AllReadyH.cons rfl (fun K hK => ?_) ?_
    · simp only [List.getElem_toArray, List.getElem_cons_zero, List.getElem_cons_succ]; go_simp
      refine (unless_any _ _ _).mono ?_; rintro e w' ⟨rfl, rfl⟩
      refine hK.out _ _ ?_ ?_
      · simp [go_sem, World.cell?_alloc_past]
      clear hHeld hK K; intro hHeld
      try simp only [Act.put, List.setIfInBounds_toArray, List.set_cons_zero, List.set_cons_succ]
      refine wpAnyH_ready (rs := [12]) (by kernel_rfl) (by simp) ?_
      refine AllReadyH.cons rfl (fun K hK => ?_) ?_
      · simp only [List.getElem_toArray, List.getElem_cons_zero, List.getElem_cons_succ]; go_simp
        refine (SZ.out _).mono ?_; rintro e w' ⟨rfl, rfl⟩
        refine hK.out _ _ ?_ ?_
        · simp [go_sem, World.cell?_alloc_past]
        clear hHeld hK K; intro hHeld
        try simp only [Act.put, List.setIfInBounds_toArray, List.set_cons_zero, List.set_cons_succ]
        refine wpAnyH_ready (rs := [13]) (by kernel_rfl) (by simp) ?_
        refine AllReadyH.cons rfl (fun K hK => ?_) ?_
        · simp only [List.getElem_toArray, List.getElem_cons_zero, List.getElem_cons_succ]; go_simp
          refine (all_any 128 _ (sml 100000) A0 c0 t 2 _ (Kd.C_below HR0.out (by repeat (first | exact Below.refl _ _ | apply below_drew | apply below_alloc))) (pred_sized 100000 _ (by decide) (by decide) _ (by simp) (by simp)) eg128).mono ?_; rintro e w' ⟨rfl, rfl⟩
          refine hK.out _ _ ?_ ?_
          · simp [go_sem, World.cell?_alloc_past]
          clear hHeld hK K; intro hHeld
          try simp only [Act.put, List.setIfInBounds_toArray, List.set_cons_zero, List.set_cons_succ]
          refine wpAnyH_ready (rs := [18]) (by kernel_rfl) (by simp) ?_
          refine AllReadyH.cons rfl (fun K hK => ?_) ?_
          · simp only [List.getElem_toArray, List.getElem_cons_zero, List.getElem_cons_succ]; go_simp
            refine (unless_any _ _ _).mono ?_; rintro e w' ⟨rfl, rfl⟩
            refine hK.out _ _ ?_ ?_
            · simp [go_sem, World.cell?_alloc_past]
            clear hHeld hK K; intro hHeld
            try simp only [Act.put, List.setIfInBounds_toArray, List.set_cons_zero, List.set_cons_succ]
            refine wpAnyH_ready (rs := [23]) (by kernel_rfl) (by simp) ?_
            refine AllReadyH.cons rfl (fun K hK => ?_) ?_
            · simp only [List.getElem_toArray, List.getElem_cons_zero, List.getElem_cons_succ]; go_simp
              refine (unless_any _ _ _).mono ?_; rintro e w' ⟨rfl, rfl⟩
              refine hK.out _ _ ?_ ?_
              · simp [go_sem, World.cell?_alloc_past]
              clear hHeld hK K; intro hHeld
              try simp only [Act.put, List.setIfInBounds_toArray, List.set_cons_zero, List.set_cons_succ]
              refine wpAnyH_ready (rs := [24]) (by kernel_rfl) (by simp) ?_
              refine AllReadyH.cons rfl (fun K hK => ?_) ?_
              · simp only [List.getElem_toArray, List.getElem_cons_zero, List.getElem_cons_succ]; go_simp
                refine hK.out _ _ ?_ ?_
                · simp [go_sem, World.cell?_alloc_past]
                clear hHeld hK K; intro hHeld
                try simp only [Act.put, List.setIfInBounds_toArray, List.set_cons_zero, List.set_cons_succ]
                refine wpAnyH_ready (rs := [25]) (by kernel_rfl) (by simp) ?_
                refine AllReadyH.cons rfl (fun K hK => ?_) ?_
                · simp only [List.getElem_toArray, List.getElem_cons_zero, List.getElem_cons_succ]; go_simp
                  refine (first5d _ _ _ _ _ _ _ (by simp)).mono ?_; rintro e w' ⟨rfl, q, rfl⟩
                  refine hK.out _ _ ?_ ?_
                  · simp [go_sem, World.cell?_alloc_past]
                  clear hHeld hK K; intro hHeld
                  try simp only [Act.put, List.setIfInBounds_toArray, List.set_cons_zero, List.set_cons_succ]
                  refine takeT (i := 26) (d := 4) (v := ?_) rfl rfl (by kernel_rfl) (by kernel_rfl) (by kernel_rfl) (fun _ _ _ h => h) (Or.inl ⟨rfl, fun w hSw => ?_⟩) (by assumption) ?_
                  rotate_left
                  · (try dsimp only at hSw); simp only [List.getElem_toArray, List.getElem_cons_zero, List.getElem_cons_succ]; go_simp <;> with_reducible rfl
                  simp only [List.setIfInBounds_toArray, List.set_cons_zero, List.set_cons_succ]
                  refine wpAnyH_done (by kernel_rfl) ?_ _
                  generalize hT : fst1 [unl (decide (0 < t.length)) 10, unl (decide ((t.length : Int) ≤ 9)) 8, unl (t.all (sml 100000)) 2, unl (decide (0 < acts.length)) 10, unl (decide ((acts.length : Int) ≤ 3)) 8] = e0
                  have HT : Aside0 (topE t acts = e0) := ⟨hT⟩
                  clear hT hHeld SZ
                  by_cases hz : e0 = 0
                  · subst hz
                    go_wp2
                    go_loopw [5, 6, 7, 40] (fun v5 v6 v7 i wr => ∃ k : Nat, k ≤ acts.length ∧ i = .int .i64 k ∧ Aside0 (rulesE t acts = actsAt t.length k (acts.drop k)) ∧ Aside0 (Below w.heap.size w wr) ∧ Aside0 (w.heap.size < wr.heap.size) ∧ wr.cell? ⟨w.heap.size, 0, none⟩ = some (.slice A0 t.length c0) ∧ wr.cell? ⟨w.heap.size, 1, none⟩ = some (.slice A1 acts.length c1)) (fun _ _ _ i _ => acts.length - (intOf i).toNat)
                    case atStart => exact ⟨0, Nat.zero_le _, rfl, ⟨by unfold rulesE; rw [if_pos HT.out]; rfl⟩, ⟨by repeat (first | exact Below.refl _ _ | apply below_drew | apply below_alloc | apply pw_below_drewN)⟩, ⟨by simp; omega⟩, by simp [go_sem, World.cell?_alloc_past], by simp [go_sem, World.cell?_alloc_past]⟩
                    case round =>
                      obtain ⟨k, hk, rfl, HE, HB, HZ, hb0, hb1⟩ := hrel
                      by_cases hlt : k < acts.length
                      · obtain ⟨ad, A2, c2, e, hx0, hx1, hx2, hl2, hi2⟩ := at_T39 (Kd.C_below HR1.out HB.out) (k : Int) (by omega) (by omega)
                        subst e
                        simp only [Int.toNat_natCast] at hx0 hx1 hx2
                        have HD : Aside0 (acts.drop k = rd_T39 acts k :: acts.drop (k + 1)) := ⟨by rw [List.drop_eq_getElem_cons hlt]; simp [rd_T39, List.getD_eq_getElem?_getD, hlt]⟩
                        generalize rd_T39 acts k = a at *
                        have HA := Aside0.mk (fun W (hW : Below wr.heap.size wr W) => actorErr_any a.f0.f0 a.f0.f1 A2 c2 a.f1 t.length W (Kd.C_below hi2 hW))
                        have hsz := HZ.out
                        have hab0 : (⟨w.heap.size, 0, none⟩ : Addr).block < wr.heap.size := hsz
                        clear hi2
                        by_cases hz : actE a.f0.f0 a.f0.f1 a.f1 t.length = 0
                        · have HN : Aside0 (rulesE t acts = actsAt t.length (k + 1) (acts.drop (k + 1))) := ⟨by rw [HE.out, HD.out]; simp only [actsAt]; rw [if_pos hz]⟩
                          rw [hz] at HA
                          clear hz HE
                          go_wp2_with (go_at_call 125; refine (HA.out _ (by repeat (first | exact Below.refl _ _ | apply below_drew | apply below_alloc | apply pw_below_drewN))).mono ?_; rintro e w3 ⟨rfl, hb⟩)
                          have hB1 : Below wr.heap.size wr w3 := ((Below.refl _ wr).alloc (Nat.le_refl _) _).trans (hb.mono (by simp))
                          have hw : wrap64 ((k : Int) + 1) = ((k + 1 : Nat) : Int) := by have := Kd.C_max HR1.out; unfold wrap64; omega
                          refine ⟨⟨k + 1, hlt, by rw [hw], HN, ⟨HB.out.trans (hB1.mono (Nat.le_of_lt hsz))⟩, ⟨Nat.lt_of_lt_of_le hsz hB1.size⟩, (hB1.cell hab0).trans hb0, (hB1.cell (p := ⟨w.heap.size, 1, none⟩) hab0).trans hb1⟩, ?_⟩
                          rw [hw]; simp only [intOf]; omega
                        · have HN : Aside0 (rulesE t acts = ((k : Int), actE a.f0.f0 a.f0.f1 a.f1 t.length)) := ⟨by rw [HE.out, HD.out]; simp only [actsAt]; rw [if_neg hz]⟩
                          generalize actE a.f0.f0 a.f0.f1 a.f1 t.length = ea at *
                          clear HE
                          have hz1 : (ea == 0) = false := by simpa using hz
                          have hz2 : (ea != 0) = true := by simpa using hz
                          go_wp2_with (go_at_call 125; refine (HA.out _ (by repeat (first | exact Below.refl _ _ | apply below_drew | apply below_alloc | apply pw_below_drewN))).mono ?_; rintro e w3 ⟨rfl, hb⟩)
                          go_ret2
                          exact ⟨by rw [HN.out]; rfl, HB.out.trans ((((Below.refl _ wr).alloc (Nat.le_refl _) _).trans (hb.mono (by simp))).mono (Nat.le_of_lt hsz))⟩
                      · have hk' : k = acts.length := by omega
                        subst hk'
                        have HN : Aside0 (rulesE t acts = (0, 0)) := ⟨by rw [HE.out, List.drop_length]; rfl⟩
                        clear HE
                        go_wp2
                        go_ret2
                        exact ⟨by rw [HN.out]; rfl, HB.out⟩
                  · have hz1 : (e0 == 0) = false := by simpa using hz
                    have hz2 : (e0 != 0) = true := by simpa using hz
                    go_wp2
                    go_ret2
                    exact ⟨by unfold rulesE; rw [HT.out, if_neg hz]; rfl, by repeat (first | exact HB.out | exact Below.refl _ _ | apply below_drew | apply below_alloc | apply pw_below_drewN)⟩
                exact AllReadyH.nil
              exact AllReadyH.nil
            exact AllReadyH.nil
          exact AllReadyH.nil
        exact AllReadyH.nil
      exact AllReadyH.nil
    exact AllReadyH.nil
  exact AllReadyH.nil

end Go.Proofs.Ytbijfhmpafjceaa.E
