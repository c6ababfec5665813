import Derived.Test.YtbijfhmpafjceaaK6
import Derived.Test.YtbijfhmpafjceaaE14
set_option linter.unusedSimpArgs false
set_option linter.unusedVariables false
namespace Go.Proofs.Ytbijfhmpafjceaa.E
open Go.RowKit Go.Proofs.YtbijfhmpafjceaaW.PrintWords Go.Proofs.YtbijfhmpafjceaaW.PrintMore Go.Proofs.Ytbijfhmpafjceaa.PFlatKept

/-! What the printed functions answer: Few, the rules' errors, copies. -/
theorem within_f (a lo hi : Int) : cobblebase_Within.f a lo hi = some (inR lo hi a) := by
  unfold cobblebase_Within.f inR
  by_cases h : lo ≤ a <;> simp [h]
theorem wk {i : Nat} (h : i < 1000000) : wrap64 ((i : Int) + 1) = ((i + 1 : Nat) : Int) := by unfold wrap64; omega
theorem inR_iff {lo hi x : Int} : inR lo hi x = true ↔ lo ≤ x ∧ x ≤ hi := by simp [inR]
theorem rdT {acts : List S39} {i : Nat} (h : i < acts.length) : rd_T39 acts (i : Int) = acts[i] := by simp [rd_T39, List.getD_eq_getElem?_getD, h]
theorem rdI {l : List Int} {i : Nat} (h : i < l.length) : rd l (i : Int) = l[i] := by simp [rd, List.getD_eq_getElem?_getD, h]

theorem few_j2 {t : List Int} {acts : List S39} {i : Nat} (hi : i < 1000) (ih : ∀ c, ∃ b, Ev (fun k => cobblelaw07_Few.l0 k c ((i + 1 : Nat) : Int) t acts) b) (c : Int) (x41 : Bool) (lo hi_ : Int) (eff : List Int) :
    ∃ b, Ev (fun k => cobblelaw07_Few.j2 k c (i : Int) x41 t acts lo hi_ eff) b := by
  cases x41 with
  | true =>
    by_cases h : wrap64 (c * mx 1 (wrap64 (wrap64 (hi_ - lo) + 1))) > 700
    · exact ⟨false, Ev.step (f := fun _ => some false) (fun k => by simp only [cobblelaw07_Few.j2]; rw [if_pos trivial, if_pos h]) (Ev.now _)⟩
    · obtain ⟨b, hb⟩ := ih (wrap64 (c * mx 1 (wrap64 (wrap64 (hi_ - lo) + 1))))
      exact ⟨b, Ev.step (fun k => by simp only [cobblelaw07_Few.j2]; rw [if_pos trivial, if_neg h, wk (by omega)]) hb⟩
  | false =>
    by_cases h : c > 700
    · exact ⟨false, Ev.step (f := fun _ => some false) (fun k => by simp only [cobblelaw07_Few.j2]; rw [if_neg (by simp), if_pos h]) (Ev.now _)⟩
    · obtain ⟨b, hb⟩ := ih c
      exact ⟨b, Ev.step (fun k => by simp only [cobblelaw07_Few.j2]; rw [if_neg (by simp), if_neg h, wk (by omega)]) hb⟩
theorem few_l0 (t : List Int) (acts : List S39) (hm : acts.length ≤ 5) : ∀ (d i : Nat), i + d = acts.length → ∀ c : Int, ∃ b, Ev (fun k => cobblelaw07_Few.l0 k c (i : Int) t acts) b := by
  intro d
  induction d with
  | zero =>
    intro i hi c
    exact ⟨true, Ev.step (f := fun _ => some true) (fun k => by simp only [cobblelaw07_Few.l0]; rw [if_neg (by omega)]) (Ev.now _)⟩
  | succ d ih =>
    intro i hi c
    have hlt : i < acts.length := by omega
    have hj := few_j2 (t := t) (acts := acts) (i := i) (by omega) (ih (i + 1) (by omega)) c
    by_cases hs : ((rd_T39 acts (i : Int)).f1.length : Int) ≤ 12
    · cases h1 : inR (-10) 10 (rd_T39 acts (i : Int)).f0.f0 with
      | true =>
        obtain ⟨b, hb⟩ := hj (inR (-10) 10 (rd_T39 acts (i : Int)).f0.f1) (rd_T39 acts (i : Int)).f0.f0 (rd_T39 acts (i : Int)).f0.f1 (rd_T39 acts (i : Int)).f1
        exact ⟨b, Ev.step (fun k => by simp only [cobblelaw07_Few.l0, cobblelaw07_short.f, within_f, Option.bind_some, h1]; rw [if_pos (by omega), if_pos (by omega), if_pos (by simpa using hs), if_pos trivial]) hb⟩
      | false =>
        obtain ⟨b, hb⟩ := hj false (rd_T39 acts (i : Int)).f0.f0 (rd_T39 acts (i : Int)).f0.f1 (rd_T39 acts (i : Int)).f1
        exact ⟨b, Ev.step (fun k => by simp only [cobblelaw07_Few.l0, cobblelaw07_short.f, within_f, Option.bind_some, h1]; rw [if_pos (by omega), if_pos (by omega), if_pos (by simpa using hs), if_neg (by simp)]) hb⟩
    · exact ⟨false, Ev.step (f := fun _ => some false) (fun k => by simp only [cobblelaw07_Few.l0, cobblelaw07_short.f, Option.bind_some]; rw [if_pos (by omega), if_pos (by omega), if_neg (by simpa using hs)]) (Ev.now _)⟩
theorem few_f (t : List Int) (acts : List S39) : ∃ b, Ev (fun k => cobblelaw07_Few.f k t acts) b := by
  have hf : Ev (fun k => cobblelaw07_Few.j0 k true t acts) false := Ev.step (f := fun _ => some false) (fun k => by simp only [cobblelaw07_Few.j0]; rw [if_pos trivial]) (Ev.now _)
  by_cases h1 : (t.length : Int) ≤ 12
  · by_cases h2 : (acts.length : Int) > 5
    · exact ⟨false, Ev.congr (fun k => by simp only [cobblelaw07_Few.f, cobblelaw07_short.f, Option.bind_some]; rw [if_pos (by simpa using h1), decide_eq_true h2]) hf⟩
    · obtain ⟨b, hb⟩ := few_l0 t acts (by omega) acts.length 0 (by omega) 1
      exact ⟨b, Ev.congr (fun k => by simp only [cobblelaw07_Few.f, cobblelaw07_short.f, Option.bind_some]; rw [if_pos (by simpa using h1), decide_eq_false h2]) (Ev.step (g := fun k => cobblelaw07_Few.j0 k false t acts) (fun k => by simp only [cobblelaw07_Few.j0]; rw [if_neg (by simp)]; rfl) hb)⟩
  · exact ⟨false, Ev.congr (fun k => by simp only [cobblelaw07_Few.f, cobblelaw07_short.f, Option.bind_some]; rw [if_neg (by simpa using h1)]) hf⟩

/-- What is asked of an actuator. -/
def okA (n : Nat) (a : S39) : Prop := (-10 ≤ a.f0.f0 ∧ a.f0.f0 ≤ a.f0.f1 ∧ a.f0.f1 ≤ 10) ∧ a.f1.length = n ∧ ∀ x ∈ a.f1, -1000 ≤ x ∧ x ≤ 1000
theorem ref_l2 {t : List Int} {acts : List S39} {n i : Nat} (hn : n ≤ 9) (hi : i < 1000) {lo hi_ : Int} {eff : List Int} (hl : eff.length = n) {p : Int × Int} (hp : Ev (fun k => cobbleref07_CheckRules.l1 k (n : Int) ((i + 1 : Nat) : Int) t acts) p) :
    ∀ d j : Nat, j + d = n → ∃ q, Ev (fun k => cobbleref07_CheckRules.l2 k (n : Int) (i : Int) (j : Int) t acts lo hi_ eff) q ∧ (q.2 = 0 → q = p ∧ ∀ (m : Nat) (h : m < eff.length), j ≤ m → -1000 ≤ eff[m] ∧ eff[m] ≤ 1000) := by
  intro d
  induction d with
  | zero =>
    intro j hj
    exact ⟨p, Ev.step (fun k => by simp only [cobbleref07_CheckRules.l2]; rw [if_neg (by omega), wk (by omega)]) hp, fun _ => ⟨rfl, fun m h hm => by omega⟩⟩
  | succ d ih =>
    intro j hj
    have hlt : j < eff.length := by omega
    cases h1 : inR (-1000) 1000 (rd eff (j : Int)) with
    | true =>
      obtain ⟨q, hq, hz⟩ := ih (j + 1) (by omega)
      refine ⟨q, Ev.step (fun k => by simp only [cobbleref07_CheckRules.l2, within_f, Option.bind_some, h1]; rw [if_pos (by omega), if_pos (by omega), if_pos (by omega), if_pos trivial, wk (by omega)]) hq, fun h => ⟨(hz h).1, fun m hm hjm => ?_⟩⟩
      by_cases e : m = j
      · subst e
        rw [rdI hlt] at h1
        exact inR_iff.1 h1
      · exact (hz h).2 m hm (by omega)
    | false =>
      exact ⟨((i : Int), 2), Ev.step (f := fun _ => some ((i : Int), 2)) (fun k => by simp only [cobbleref07_CheckRules.l2, within_f, Option.bind_some, h1]; rw [if_pos (by omega), if_pos (by omega), if_pos (by omega), if_neg (by simp)]) (Ev.now _), fun h => absurd h (by simp)⟩
theorem ref_l1 {t : List Int} {acts : List S39} {n : Nat} (hn : n ≤ 9) (hm : acts.length ≤ 3) : ∀ d i : Nat, i + d = acts.length → ∃ p, Ev (fun k => cobbleref07_CheckRules.l1 k (n : Int) (i : Int) t acts) p ∧ (p.2 = 0 → ∀ (m : Nat) (h : m < acts.length), i ≤ m → okA n acts[m]) := by
  intro d
  induction d with
  | zero =>
    intro i hi
    exact ⟨(0, 0), Ev.step (f := fun _ => some (0, 0)) (fun k => by simp only [cobbleref07_CheckRules.l1]; rw [if_neg (by omega)]) (Ev.now _), fun _ m h hm => by omega⟩
  | succ d ih =>
    intro i hi
    have hlt : i < acts.length := by omega
    obtain ⟨p, hp, hpz⟩ := ih (i + 1) (by omega)
    have hr := rdT hlt
    have hbad : ∀ x59 : Bool, x59 = true → Ev (fun k => cobbleref07_CheckRules.j2 k (n : Int) (i : Int) x59 t acts acts[i].f0.f0 acts[i].f0.f1 acts[i].f1) ((i : Int), 2) := fun x59 e => Ev.step (f := fun _ => some ((i : Int), 2)) (fun k => by simp only [cobbleref07_CheckRules.j2]; rw [if_pos e]) (Ev.now _)
    have hl1 : ∀ k, cobbleref07_CheckRules.l1 (k + 1) (n : Int) (i : Int) t acts = if inR (-10) 10 acts[i].f0.f0 = true then cobbleref07_CheckRules.j2 k (n : Int) (i : Int) (!inR (-10) 10 acts[i].f0.f1) t acts acts[i].f0.f0 acts[i].f0.f1 acts[i].f1 else cobbleref07_CheckRules.j2 k (n : Int) (i : Int) true t acts acts[i].f0.f0 acts[i].f0.f1 acts[i].f1 := fun k => by
      simp only [cobbleref07_CheckRules.l1, within_f, Option.bind_some, hr]
      rw [if_pos (by omega), if_pos (by omega)]
    cases h0 : inR (-10) 10 acts[i].f0.f0 with
    | false =>
      exact ⟨((i : Int), 2), Ev.step (fun k => by rw [hl1, h0, if_neg (by simp)]) (hbad true rfl), fun h => absurd h (by simp)⟩
    | true =>
      cases h1 : inR (-10) 10 acts[i].f0.f1 with
      | false => exact ⟨((i : Int), 2), Ev.step (fun k => by rw [hl1, h0, if_pos rfl, h1]) (hbad (!false) rfl), fun h => absurd h (by simp)⟩
      | true =>
        have hs : ∀ k, cobbleref07_CheckRules.l1 (k + 1) (n : Int) (i : Int) t acts = cobbleref07_CheckRules.j2 k (n : Int) (i : Int) false t acts acts[i].f0.f0 acts[i].f0.f1 acts[i].f1 := fun k => by rw [hl1, h0, if_pos rfl, h1]; rfl
        by_cases h2 : acts[i].f0.f0 > acts[i].f0.f1
        · exact ⟨((i : Int), 9), Ev.step hs (Ev.step (f := fun _ => some ((i : Int), 9)) (fun k => by simp only [cobbleref07_CheckRules.j2]; rw [if_neg (by simp), if_pos h2]) (Ev.now _)), fun h => absurd h (by simp)⟩
        · by_cases h3 : (acts[i].f1.length : Int) = (n : Int)
          · obtain ⟨q, hq, hz⟩ := ref_l2 (t := t) (acts := acts) hn (show i < 1000 by omega) (lo := acts[i].f0.f0) (hi_ := acts[i].f0.f1) (eff := acts[i].f1) (by omega) hp n 0 (by omega)
            refine ⟨q, Ev.step hs (Ev.step (fun k => by simp only [cobbleref07_CheckRules.j2]; rw [if_neg (by simp), if_neg h2, if_pos h3]; rfl) hq), fun h m hm2 him => ?_⟩
            obtain ⟨e, hb⟩ := hz h
            by_cases e2 : m = i
            · subst e2
              have g0 := inR_iff.1 h0
              have g1 := inR_iff.1 h1
              refine ⟨⟨g0.1, by omega, g1.2⟩, by omega, fun x hx => ?_⟩
              obtain ⟨j, hj, rfl⟩ := List.mem_iff_getElem.1 hx
              exact hb j hj (Nat.zero_le _)
            · subst e
              exact hpz h m hm2 (by omega)
          · exact ⟨((i : Int), 10), Ev.step hs (Ev.step (f := fun _ => some ((i : Int), 10)) (fun k => by simp only [cobbleref07_CheckRules.j2]; rw [if_neg (by simp), if_neg h2, if_neg h3]) (Ev.now _)), fun h => absurd h (by simp)⟩
theorem ref_l0 {t : List Int} {acts : List S39} (hn : t.length ≤ 9) : ∀ d j : Nat, j + d = t.length → ∃ p, Ev (fun k => cobbleref07_CheckRules.l0 k (t.length : Int) (j : Int) t acts) p ∧ (p.2 = 0 → (∀ (m : Nat) (h : m < t.length), j ≤ m → -100000 ≤ t[m] ∧ t[m] ≤ 100000) ∧ 1 ≤ acts.length ∧ acts.length ≤ 3 ∧ ∀ a ∈ acts, okA t.length a) := by
  intro d
  induction d with
  | zero =>
    intro j hj
    by_cases h0 : (acts.length : Int) = 0
    · exact ⟨(0, 10), Ev.step (f := fun _ => some (0, 10)) (fun k => by simp only [cobbleref07_CheckRules.l0]; rw [if_neg (by omega), if_pos h0]) (Ev.now _), fun h => absurd h (by simp)⟩
    · by_cases h3 : (acts.length : Int) > 3
      · exact ⟨(0, 8), Ev.step (f := fun _ => some (0, 8)) (fun k => by simp only [cobbleref07_CheckRules.l0]; rw [if_neg (by omega), if_neg h0, if_pos h3]) (Ev.now _), fun h => absurd h (by simp)⟩
      · obtain ⟨p, hp, hz⟩ := ref_l1 (t := t) (acts := acts) (n := t.length) hn (by omega) acts.length 0 (by omega)
        refine ⟨p, Ev.step (fun k => by simp only [cobbleref07_CheckRules.l0]; rw [if_neg (by omega), if_neg h0, if_neg h3]; rfl) hp, fun h => ⟨fun m hm hjm => by omega, by omega, by omega, fun a ha => ?_⟩⟩
        obtain ⟨m, hm, rfl⟩ := List.mem_iff_getElem.1 ha
        exact hz h m hm (Nat.zero_le _)
  | succ d ih =>
    intro j hj
    have hlt : j < t.length := by omega
    cases h1 : inR (-100000) 100000 (rd t (j : Int)) with
    | true =>
      obtain ⟨q, hq, hz⟩ := ih (j + 1) (by omega)
      refine ⟨q, Ev.step (fun k => by simp only [cobbleref07_CheckRules.l0, within_f, Option.bind_some, h1]; rw [if_pos (by omega), if_pos (by omega), if_pos (by omega), if_pos trivial, wk (by omega)]) hq, fun h => ⟨fun m hm hjm => ?_, (hz h).2⟩⟩
      by_cases e : m = j
      · subst e
        rw [rdI hlt] at h1
        exact inR_iff.1 h1
      · exact (hz h).1 m hm (by omega)
    | false =>
      exact ⟨(0, 2), Ev.step (f := fun _ => some (0, 2)) (fun k => by simp only [cobbleref07_CheckRules.l0, within_f, Option.bind_some, h1]; rw [if_pos (by omega), if_pos (by omega), if_pos (by omega), if_neg (by simp)]) (Ev.now _), fun h => absurd h (by simp)⟩
theorem rulesErr_f (t : List Int) (acts : List S39) : ∃ e, Ev (fun k => cobbleref07_RulesErr.f k t acts) e ∧ (e = 0 → Good t acts) := by
  have key : ∃ p, Ev (fun k => cobbleref07_CheckRules.f k t acts) p ∧ (p.2 = 0 → Good t acts) := by
    by_cases h0 : (t.length : Int) = 0
    · exact ⟨(0, 10), Ev.congr (fun k => by unfold cobbleref07_CheckRules.f; rw [if_pos h0]) (Ev.now _), fun h => absurd h (by simp)⟩
    · by_cases h9 : (t.length : Int) > 9
      · exact ⟨(0, 8), Ev.congr (fun k => by unfold cobbleref07_CheckRules.f; rw [if_neg h0, if_pos h9]) (Ev.now _), fun h => absurd h (by simp)⟩
      · obtain ⟨p, hp, hz⟩ := ref_l0 (t := t) (acts := acts) (by omega) t.length 0 (by omega)
        refine ⟨p, Ev.congr (fun k => by unfold cobbleref07_CheckRules.f; rw [if_neg h0, if_neg h9]; rfl) hp, fun h => ?_⟩
        obtain ⟨h1, h2, h3, h4⟩ := hz h
        refine ⟨by omega, by omega, fun x hx => ?_, h2, h3, fun a ha => (h4 a ha).1, fun a ha => (h4 a ha).2.1, fun a ha => (h4 a ha).2.2⟩
        obtain ⟨m, hm, rfl⟩ := List.mem_iff_getElem.1 hx
        exact h1 m hm (Nat.zero_le _)
  obtain ⟨p, hp, hz⟩ := key
  exact ⟨p.2, Ev.congr (fun k => by unfold cobbleref07_RulesErr.f; rfl) (Ev.bind hp (Ev.now _)), hz⟩

theorem copyInts_f (l : List Int) (h : l.length ≤ 1000) : cobblebase_CopyInts.f l = some l := by
  unfold cobblebase_CopyInts.f
  simp only [Option.bind_some, List.length_nil, Nat.zero_add, List.nil_append]
  rw [if_pos (by omega)]
theorem copyRules_l0 {t : List Int} {acts : List S39} (hg : Good t acts) : ∀ d i : Nat, i + d = acts.length → Ev (fun k => cobbleref07_CopyRules.l0 k (i : Int) t acts t (acts.take i)) (t, acts) := by
  intro d
  induction d with
  | zero =>
    intro i hi
    have e : acts.take i = acts := List.take_of_length_le (by omega)
    exact Ev.step (f := fun _ => some (t, acts)) (fun k => by simp only [cobbleref07_CopyRules.l0]; rw [if_neg (by omega), e]) (Ev.now _)
  | succ d ih =>
    intro i hi
    have hlt : i < acts.length := by omega
    have hm := hg.m3
    have hl := hg.len _ (List.getElem_mem hlt)
    have h9 := hg.n9
    have e : acts.take (i + 1) = acts.take i ++ [(⟨⟨acts[i].f0.f0, acts[i].f0.f1⟩, acts[i].f1⟩ : S39)] := by rw [List.take_succ_eq_append_getElem hlt]
    have := ih (i + 1) (by omega)
    rw [e] at this
    exact Ev.step (fun k => by simp only [cobbleref07_CopyRules.l0, rdT hlt]; rw [if_pos (by omega), if_pos (by omega), copyInts_f _ (by omega), Option.bind_some, if_pos (by rw [List.length_take]; omega), wk (by omega)]) this
theorem copyRules_f {t : List Int} {acts : List S39} (hg : Good t acts) : Ev (fun k => cobbleref07_CopyRules.f k t acts) (t, acts) := by
  have h9 := hg.n9
  exact Ev.congr (fun k => by unfold cobbleref07_CopyRules.f; rw [copyInts_f _ (by omega), Option.bind_some]; rfl) (copyRules_l0 hg acts.length 0 (by omega))

/-! The best settings have the minimum. -/
theorem best_fold (t : List Int) (acts : List S39) : ∀ (S : List (List Int)) (b0 : List Int) (m0 : Int), m0 = maxd t acts b0 → ∃ b m, S.foldl (bestStep t acts) (some (b0, m0)) = some (b, m) ∧ m = maxd t acts b ∧ (b ∈ S ∨ b = b0) ∧ m ≤ m0 ∧ ∀ x ∈ S, m ≤ maxd t acts x
  | [], b0, m0, h => ⟨b0, m0, rfl, h, .inr rfl, Int.le_refl _, fun x hx => by cases hx⟩
  | s :: S, b0, m0, h => by
    by_cases hc : maxd t acts s < m0
    · obtain ⟨b, m, h1, h2, h3, h4, h5⟩ := best_fold t acts S s (maxd t acts s) rfl
      refine ⟨b, m, by simp only [List.foldl_cons, bestStep]; rw [if_pos hc]; exact h1, h2, ?_, by omega, fun x hx => ?_⟩
      · rcases h3 with h3 | h3
        · exact .inl (List.mem_cons_of_mem _ h3)
        · exact .inl (h3 ▸ List.mem_cons_self)
      · rcases List.mem_cons.1 hx with rfl | hx
        · exact h4
        · exact h5 x hx
    · obtain ⟨b, m, h1, h2, h3, h4, h5⟩ := best_fold t acts S b0 m0 h
      refine ⟨b, m, by simp only [List.foldl_cons, bestStep]; rw [if_neg hc]; exact h1, h2, ?_, h4, fun x hx => ?_⟩
      · rcases h3 with h3 | h3
        · exact .inl (List.mem_cons_of_mem _ h3)
        · exact .inr h3
      · rcases List.mem_cons.1 hx with rfl | hx
        · omega
        · exact h5 x hx
theorem sets_ne {acts : List S39} (h : ∀ a ∈ acts, a.f0.f0 ≤ a.f0.f1) : ∃ x S, sets acts = x :: S := by
  have := (sets_ok acts h).2
  cases hs : sets acts with
  | nil => rw [hs] at this; cases this
  | cons x S => exact ⟨x, S, rfl⟩
theorem best_f {t : List Int} {acts : List S39} (hg : Good t acts) : ∃ b m, flat_Best.f t acts = some (b, m, 0) ∧ (∀ tol, (∃ x ∈ sets acts, maxd t acts x ≤ tol) ↔ m ≤ tol) := by
  obtain ⟨x, S, hs⟩ := sets_ne fun a ha => (hg.rng a ha).2.1
  obtain ⟨b, m, h1, h2, h3, h4, h5⟩ := best_fold t acts S x (maxd t acts x) rfl
  have hb : bestIn t acts (sets acts) = some (b, m) := by unfold bestIn; rw [hs]; exact h1
  refine ⟨b, m, by unfold flat_Best.f; rw [if_pos ((rulesE_zero t acts).2 hg), hb]; rfl, fun tol => ⟨?_, fun h => ?_⟩⟩
  · rintro ⟨y, hy, hle⟩
    rw [hs] at hy
    rcases List.mem_cons.1 hy with rfl | hy
    · omega
    · have := h5 y hy; omega
  · refine ⟨b, ?_, by omega⟩
    rw [hs]
    rcases h3 with h3 | rfl
    · exact List.mem_cons_of_mem _ h3
    · exact List.mem_cons_self
theorem tol_zero {t : List Int} {acts : List S39} {tol : Int} (hg : Good t acts) (h0 : 0 ≤ tol) (h1 : tol ≤ 100000) : fst1 [(rulesE t acts).2, tolE tol] = 0 := by
  rw [(rulesE_zero t acts).2 hg]
  simp [fst1, tolE, unl, h0, h1]
theorem first_yes {t : List Int} {acts : List S39} {tol : Int} (hg : Good t acts) (h0 : 0 ≤ tol) (h1 : tol ≤ 100000) (h : ∃ x ∈ sets acts, maxd t acts x ≤ tol) : ∃ s, flat_FirstWithin.f t acts tol = some (s, 0) := by
  unfold flat_FirstWithin.f
  rw [if_pos (tol_zero hg h0 h1)]
  cases hf : firstIn t acts tol with
  | some s => exact ⟨s, rfl⟩
  | none =>
    obtain ⟨x, hx, hle⟩ := h
    have := List.find?_eq_none.1 hf x hx
    simp [hle] at this
theorem first_no {t : List Int} {acts : List S39} {tol : Int} (hg : Good t acts) (h0 : 0 ≤ tol) (h1 : tol ≤ 100000) (h : ¬ ∃ x ∈ sets acts, maxd t acts x ≤ tol) : flat_FirstWithin.f t acts tol = some ([], 12) := by
  unfold flat_FirstWithin.f
  rw [if_pos (tol_zero hg h0 h1)]
  cases hf : firstIn t acts tol with
  | none => rfl
  | some s =>
    have h2 := List.find?_some hf
    have h3 := List.mem_of_find?_eq_some hf
    exact absurd ⟨s, h3, by simpa using h2⟩ h
end Go.Proofs.Ytbijfhmpafjceaa.E
