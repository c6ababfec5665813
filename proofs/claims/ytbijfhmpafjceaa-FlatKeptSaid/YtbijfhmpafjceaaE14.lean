import Derived.Test.YtbijfhmpafjceaaE12
set_option linter.unusedSimpArgs false
set_option linter.unusedVariables false
namespace Go.Proofs.Ytbijfhmpafjceaa.E
open Go.RowKit Go.Proofs.YtbijfhmpafjceaaW.PrintWords Go.Proofs.YtbijfhmpafjceaaW.PrintMore Go.Proofs.Ytbijfhmpafjceaa.PFlatKept

/-! What FlatKept leans on: sets of positions that cannot be kept. -/
theorem bestC_none (T : Nat → Bool) : ∀ k, bestC T k = none ↔ ∀ m, 1 ≤ m → m ≤ k → T m = true
  | 0 => ⟨fun _ m h1 h2 => by omega, fun _ => rfl⟩
  | k + 1 => by
    have ih := bestC_none T k
    simp only [bestC]
    cases hT : T (k + 1) with
    | true =>
      rw [if_pos rfl, ih]
      constructor
      · intro h m h1 h2
        by_cases e : m = k + 1
        · rw [e, hT]
        · exact h m h1 (by omega)
      · intro h m h1 h2
        exact h m h1 (by omega)
    | false =>
      rw [if_neg (by simp)]
      constructor
      · intro h
        cases hb : bestC T k with
        | none => rw [hb] at h; cases h
        | some b =>
          rw [hb] at h
          simp only at h
          split at h <;> cases h
      · intro h
        have := h (k + 1) (by omega) (by omega)
        rw [hT] at this; cases this

theorem bestC_some (T : Nat → Bool) : ∀ k b, bestC T k = some b → ∃ m, 1 ≤ m ∧ m ≤ k ∧ T m = false ∧ b = posN m ∧ ∀ j, 1 ≤ j → j ≤ k → T j = false → b.length ≤ (posN j).length
  | 0, b, h => by cases h
  | k + 1, b, h => by
    have ih := bestC_some T k
    simp only [bestC] at h
    cases hT : T (k + 1) with
    | true =>
      rw [hT, if_pos rfl] at h
      obtain ⟨m, h1, h2, h3, h4, h5⟩ := ih b h
      refine ⟨m, h1, by omega, h3, h4, fun j j1 j2 j3 => ?_⟩
      by_cases e : j = k + 1
      · rw [e, hT] at j3; cases j3
      · exact h5 j j1 (by omega) j3
    | false =>
      rw [hT, if_neg (by simp)] at h
      cases hb : bestC T k with
      | none =>
        rw [hb] at h
        have e : b = posN (k + 1) := by simpa using h.symm
        subst e
        refine ⟨k + 1, by omega, by omega, hT, rfl, fun j j1 j2 j3 => ?_⟩
        by_cases e : j = k + 1
        · rw [e]; exact Nat.le_refl _
        · have := (bestC_none T k).1 hb j j1 (by omega)
          rw [this] at j3; cases j3
      | some b0 =>
        rw [hb] at h
        obtain ⟨m, h1, h2, h3, h4, h5⟩ := ih b0 hb
        simp only at h
        split at h
        · rename_i hc
          have e : b = posN (k + 1) := by simpa using h.symm
          subst e
          refine ⟨k + 1, by omega, by omega, hT, rfl, fun j j1 j2 j3 => ?_⟩
          by_cases e : j = k + 1
          · rw [e]; exact Nat.le_refl _
          · have := h5 j j1 (by omega) j3
            omega
        · rename_i hc
          have e : b = b0 := by simpa using h.symm
          subst e
          refine ⟨m, h1, by omega, h3, h4, fun j j1 j2 j3 => ?_⟩
          by_cases e : j = k + 1
          · rw [e]
            apply Classical.byContradiction
            intro hn
            exact hc (.inl (by omega))
          · exact h5 j j1 (by omega) j3

theorem mem_posN (m : Nat) (p : Int) : p ∈ posN m ↔ ∃ j : Nat, p = j ∧ j < 9 ∧ m.testBit j = true := by
  unfold posN posIn
  rw [List.mem_map]
  constructor
  · rintro ⟨j, hj, rfl⟩
    rw [List.mem_filter, List.mem_range] at hj
    exact ⟨j, rfl, hj.1, hj.2⟩
  · rintro ⟨j, rfl, h1, h2⟩
    exact ⟨j, by rw [List.mem_filter, List.mem_range]; exact ⟨h1, h2⟩, rfl⟩
theorem posN_sorted (m : Nat) : (posN m).Pairwise (· < ·) := by
  unfold posN posIn
  rw [List.pairwise_map]
  exact (List.Pairwise.filter _ List.pairwise_lt_range).imp (fun h => by simpa using h)
theorem clr_length : ∀ m < 512, ∀ i < 9, m.testBit i = true → (posN (clr m i)).length + 1 = (posN m).length := by decide +kernel
theorem pos_some14 : ∀ x < 512, 1 ≤ x → 1 ≤ (posN x).length := by decide +kernel
theorem posIn_stop (m n : Nat) (h : ∀ j, m.testBit j = true → j < n) : ∀ d, posIn m (n + d) = posIn m n
  | 0 => rfl
  | d + 1 => by
    rw [← Nat.add_assoc, posIn_succ, posIn_stop m n h d]
    cases hb : m.testBit (n + d) with
    | false => simp
    | true => have := h _ hb; omega
theorem posN_le (m n : Nat) (h : ∀ j, m.testBit j = true → j < n) (h9 : n ≤ 9) : (posN m).length ≤ n := by
  have := posIn_stop m n h (9 - n)
  rw [show n + (9 - n) = 9 by omega] at this
  unfold posN
  rw [this]
  exact posIn_length _ _

theorem keptN_bit (t : List Int) (acts : List S39) (tol : Int) (x : List Int) (j : Nat) : (keptN t acts tol x).testBit j = (decide (j < t.length) && okAt t acts tol x j) := setOf_bit _ _ _
theorem can_iff (t : List Int) (acts : List S39) (tol : Int) (m : Nat) : canB t acts tol m = true ↔ ∃ x ∈ sets acts, ∀ j, m.testBit j = true → j < t.length ∧ okAt t acts tol x j = true := by
  rw [canB_iff]
  constructor
  · rintro ⟨k, ⟨x, hx, rfl⟩, hs⟩
    refine ⟨x, hx, fun j hj => ?_⟩
    have := hs j hj
    rw [keptN_bit, Bool.and_eq_true, decide_eq_true_eq] at this
    exact this
  · rintro ⟨x, hx, h⟩
    refine ⟨_, ⟨x, hx, rfl⟩, fun j hj => ?_⟩
    rw [keptN_bit, Bool.and_eq_true, decide_eq_true_eq]
    exact h j hj
theorem mx_le (a b c : Int) : mx a b ≤ c ↔ a ≤ c ∧ b ≤ c := by unfold mx; omega
theorem maxFrom_le (t : List Int) (acts : List S39) (s : List Int) (c : Int) : ∀ (d i : Nat) (m : Int), maxFrom t acts s d i m ≤ c ↔ m ≤ c ∧ ∀ j, i ≤ j → j < i + d → sz (dvn j acts s (t.getD j 0)) ≤ c
  | 0, i, m => by
    simp only [maxFrom]
    exact ⟨fun h => ⟨h, fun j h1 h2 => by omega⟩, fun h => h.1⟩
  | d + 1, i, m => by
    simp only [maxFrom]
    rw [maxFrom_le t acts s c d (i + 1), mx_le]
    constructor
    · rintro ⟨⟨h1, h2⟩, h3⟩
      refine ⟨h1, fun j j1 j2 => ?_⟩
      by_cases e : j = i
      · rw [e]; exact h2
      · exact h3 j (by omega) (by omega)
    · rintro ⟨h1, h2⟩
      exact ⟨⟨h1, h2 i (by omega) (by omega)⟩, fun j j1 j2 => h2 j (by omega) (by omega)⟩
theorem maxd_le (t : List Int) (acts : List S39) (s : List Int) (c : Int) : maxd t acts s ≤ c ↔ 0 ≤ c ∧ ∀ j, j < t.length → sz (dvn j acts s (t.getD j 0)) ≤ c := by
  unfold maxd
  rw [maxFrom_le]
  exact ⟨fun h => ⟨h.1, fun j hj => h.2 j (by omega) (by omega)⟩, fun h => ⟨h.1, fun j _ hj => h.2 j (by omega)⟩⟩
theorem maxd_nonneg (t : List Int) (acts : List S39) (s : List Int) : 0 ≤ maxd t acts s := ((maxd_le t acts s _).1 (Int.le_refl _)).1
theorem can_full (t : List Int) (acts : List S39) (tol : Int) (h0 : 0 ≤ tol) : canB t acts tol (2 ^ t.length - 1) = true ↔ ∃ x ∈ sets acts, maxd t acts x ≤ tol := by
  rw [can_iff]
  constructor
  · rintro ⟨x, hx, h⟩
    refine ⟨x, hx, (maxd_le _ _ _ _).2 ⟨h0, fun j hj => ?_⟩⟩
    have := (h j (by rw [Nat.testBit_two_pow_sub_one]; exact decide_eq_true hj)).2
    simpa [okAt] using this
  · rintro ⟨x, hx, h⟩
    refine ⟨x, hx, fun j hj => ?_⟩
    rw [Nat.testBit_two_pow_sub_one, decide_eq_true_eq] at hj
    exact ⟨hj, by have := ((maxd_le _ _ _ _).1 h).2 j hj; simpa [okAt] using this⟩
theorem can_mono (t : List Int) (acts : List S39) (tol : Int) {m k : Nat} (hs : Sub m k) (h : canB t acts tol k = true) : canB t acts tol m = true := by
  rw [can_iff] at h ⊢
  obtain ⟨x, hx, hk⟩ := h
  exact ⟨x, hx, fun j hj => hk j (hs j hj)⟩
theorem contra_none (t : List Int) (acts : List S39) (tol : Int) (h0 : 0 ≤ tol) (hn : 1 ≤ t.length) : contraL t acts tol = none ↔ ∃ x ∈ sets acts, maxd t acts x ≤ tol := by
  unfold contraL
  rw [bestC_none, ← can_full t acts tol h0]
  have h2 : 2 ≤ 2 ^ t.length := by
    calc 2 = 2 ^ 1 := rfl
      _ ≤ 2 ^ t.length := Nat.pow_le_pow_right (by decide) hn
  constructor
  · intro h; exact h _ (by omega) (Nat.le_refl _)
  · intro h m h1 h2
    refine can_mono t acts tol (fun j hj => ?_) h
    rw [Nat.testBit_two_pow_sub_one, decide_eq_true_eq]
    apply Classical.byContradiction
    intro hc
    have : m < 2 ^ j := Nat.lt_of_lt_of_le (by omega) (Nat.pow_le_pow_right (by decide) (Nat.le_of_not_lt hc))
    rw [Nat.testBit_lt_two_pow this] at hj; cases hj

/-! Rules of some positions. -/
def subT (q : List Int) (t : List Int) : List Int := q.map fun p => t.getD p.toNat 0
def subA (q : List Int) (acts : List S39) : List S39 := acts.map fun a => { a with f1 := q.map fun p => a.f1.getD p.toNat 0 }
theorem sets_sub (q : List Int) : ∀ acts : List S39, sets (subA q acts) = sets acts
  | [] => rfl
  | a :: ar => by
    have := sets_sub q ar
    simp only [subA, List.map_cons, sets] at this ⊢
    rw [this]
theorem dvn_sub (q : List Int) (i : Nat) (p : Int) (hq : q[i]? = some p) : ∀ (acts : List S39) (s : List Int) (x : Int), dvn i (subA q acts) s x = dvn p.toNat acts s x
  | [], s, x => by simp [subA, dvn]
  | a :: ar, [], x => by simp [subA, dvn]
  | a :: ar, y :: ys, x => by
    have := dvn_sub q i p hq ar ys
    simp only [subA, List.map_cons, dvn] at this ⊢
    rw [this]
    congr 3
    simp [List.getD_eq_getElem?_getD, hq]
theorem maxd_sub (t q : List Int) (acts : List S39) (x : List Int) (tol : Int) (h0 : 0 ≤ tol) : maxd (subT q t) (subA q acts) x ≤ tol ↔ ∀ p ∈ q, okAt t acts tol x p.toNat = true := by
  rw [maxd_le]
  have hl : (subT q t).length = q.length := by simp [subT]
  constructor
  · rintro ⟨_, h⟩ p hp
    obtain ⟨i, hi⟩ := List.getElem?_of_mem hp
    have hil : i < q.length := (List.getElem?_eq_some_iff.1 hi).1
    have := h i (by omega)
    rw [dvn_sub q i p hi] at this
    simp only [okAt, decide_eq_true_eq]
    have e : (subT q t).getD i 0 = t.getD p.toNat 0 := by simp [subT, List.getD_eq_getElem?_getD, hi]
    rw [e] at this
    exact this
  · intro h
    refine ⟨h0, fun i hi => ?_⟩
    have hil : i < q.length := by omega
    have hq : q[i]? = some q[i] := List.getElem?_eq_getElem hil
    rw [dvn_sub q i _ hq]
    have e : (subT q t).getD i 0 = t.getD q[i].toNat 0 := by simp [subT, List.getD_eq_getElem?_getD, hil]
    rw [e]
    have := h _ (List.getElem_mem hil)
    simpa [okAt] using this
theorem good_sub {t : List Int} {acts : List S39} (hg : Good t acts) (q : List Int) (h1 : 1 ≤ q.length) (h9 : q.length ≤ 9) : Good (subT q t) (subA q acts) := by
  refine ⟨by simpa [subT] using h1, by simpa [subT] using h9, ?_, by simpa [subA] using hg.m1, by simpa [subA] using hg.m3, ?_, ?_, ?_⟩
  · intro x hx
    obtain ⟨p, _, rfl⟩ := List.mem_map.1 hx
    exact getD_bound hg _
  · intro a ha
    obtain ⟨b, hb, rfl⟩ := List.mem_map.1 ha
    exact hg.rng b hb
  · intro a ha
    obtain ⟨b, hb, rfl⟩ := List.mem_map.1 ha
    simp [subT]
  · intro a ha x hx
    obtain ⟨b, hb, rfl⟩ := List.mem_map.1 ha
    obtain ⟨p, _, rfl⟩ := List.mem_map.1 hx
    rw [List.getD_eq_getElem?_getD]
    cases hq : b.f1[p.toNat]? with
    | none => simp
    | some z => exact hg.eff b hb z (List.mem_of_getElem? hq)

/-- The positions that contradict each other: none of them is too many. -/
theorem contra_some {t : List Int} {acts : List S39} {tol : Int} (h0 : 0 ≤ tol) (h9 : t.length ≤ 9) {l : List Int} (h : contraL t acts tol = some l) :
    1 ≤ l.length ∧ l.length ≤ t.length ∧ l.Pairwise (· < ·) ∧ (∀ p ∈ l, 0 ≤ p ∧ p < t.length) ∧
      (¬ ∃ x ∈ sets acts, maxd (subT l t) (subA l acts) x ≤ tol) ∧
      ∀ i < l.length, 2 ≤ l.length → ∃ x ∈ sets acts, maxd (subT (l.eraseIdx i) t) (subA (l.eraseIdx i) acts) x ≤ tol := by
  obtain ⟨m, h1, h2, h3, rfl, h5⟩ := bestC_some _ _ _ h
  have hp : 2 ^ t.length ≤ 512 := by rw [show (512 : Nat) = 2 ^ 9 from rfl]; exact Nat.pow_le_pow_right (by decide) h9
  have hpp : 0 < 2 ^ t.length := Nat.two_pow_pos _
  have hm : m < 512 := by omega
  have hb : ∀ j, m.testBit j = true → j < t.length := fun j hj => by
    apply Classical.byContradiction
    intro hc
    have : m < 2 ^ j := Nat.lt_of_lt_of_le (by omega) (Nat.pow_le_pow_right (by decide) (Nat.le_of_not_lt hc))
    rw [Nat.testBit_lt_two_pow this] at hj; cases hj
  have hr : ∀ p ∈ posN m, 0 ≤ p ∧ p < t.length := fun p hpm => by
    obtain ⟨j, rfl, _, hj⟩ := (mem_posN m p).1 hpm
    have := hb j hj
    omega
  have hpos := pos_some14 m hm h1
  have hlen : (posN m).length ≤ t.length := posN_le m _ hb h9
  refine ⟨hpos, hlen, posN_sorted m, hr, ?_, ?_⟩
  · rintro ⟨x, hx, hle⟩
    rw [maxd_sub _ _ _ _ _ h0] at hle
    have : canB t acts tol m = true := (can_iff _ _ _ _).2 ⟨x, hx, fun j hj => ⟨hb j hj, by
      have := hle (j : Int) ((mem_posN m _).2 ⟨j, rfl, by have := hb j hj; omega, hj⟩)
      simpa using this⟩⟩
    rw [this] at h3; cases h3
  · intro i hi h2l
    obtain ⟨j, hj0, hj9, hj⟩ := (mem_posN m (posN m)[i]).1 (List.getElem_mem hi)
    have hlc := clr_length m hm j hj9 hj
    have hc : canB t acts tol (clr m j) = true := by
      cases hT : canB t acts tol (clr m j) with
      | true => rfl
      | false =>
        have hle := clr_le m j
        have h1c : 1 ≤ clr m j := by
          apply Nat.one_le_iff_ne_zero.2
          intro e
          rw [e] at hlc
          have : (posN 0).length = 0 := by decide
          omega
        have := h5 (clr m j) h1c (by omega) hT
        omega
    obtain ⟨x, hx, hk⟩ := (can_iff _ _ _ _).1 hc
    refine ⟨x, hx, (maxd_sub _ _ _ _ _ h0).2 fun p hp => ?_⟩
    have hpm := List.mem_of_mem_eraseIdx hp
    obtain ⟨k, rfl, hk9, hkb⟩ := (mem_posN m p).1 hpm
    have hne : k ≠ j := by
      intro e
      subst e
      rw [← hj0] at hp
      have hs := posN_sorted m
      rw [List.mem_eraseIdx_iff_getElem] at hp
      obtain ⟨y, hy, hyi, hye⟩ := hp
      rcases Nat.lt_or_gt_of_ne hyi with hlt | hgt
      · have := (List.pairwise_iff_getElem.1 hs) y i hy hi hlt; omega
      · have := (List.pairwise_iff_getElem.1 hs) i y hi hy hgt; omega
    have := (hk k (by rw [clr_tb, hkb]; simp [hk9]; exact fun e => hne e.symm)).2
    simpa using this
end Go.Proofs.Ytbijfhmpafjceaa.E
