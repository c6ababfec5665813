import Derived.Test.YtbijfhmpafjceaaK7
import Derived.Test.YtbijfhmpafjceaaP1
set_option linter.unusedSimpArgs false
set_option linter.unusedVariables false
namespace Go.Proofs.Ytbijfhmpafjceaa.E
open Go.RowKit Go.Proofs.YtbijfhmpafjceaaW.PrintWords Go.Proofs.YtbijfhmpafjceaaW.PrintMore Go.Proofs.Ytbijfhmpafjceaa.PFlatKept

/-! FlatKept, purely: the rules of some positions are built, and tried. -/
theorem set_mid {xs ys : List S39} (hl : xs.length = ys.length) {i : Nat} (hi : i < ys.length) (v : S39) (hv : v = ys[i]) : (ys.take i ++ xs.drop i).set i v = ys.take (i + 1) ++ xs.drop (i + 1) := by
  subst hv
  rw [List.set_append_right _ _ (by simp; omega), List.length_take, Nat.min_eq_left (Nat.le_of_lt hi), Nat.sub_self, List.drop_eq_getElem_cons (by omega), List.set_cons_zero, List.take_succ_eq_append_getElem hi, List.append_assoc]
  rfl
theorem get_mid {xs ys : List S39} (hl : xs.length = ys.length) {i : Nat} (hi : i < ys.length) : rd_T39 (ys.take i ++ xs.drop i) (i : Int) = xs[i]'(by omega) := by
  simp only [rd_T39, Int.toNat_natCast, List.getD_eq_getElem?_getD]
  rw [List.getElem?_append_right (by simp; omega), List.length_take, Nat.min_eq_left (Nat.le_of_lt hi), Nat.sub_self, List.getElem?_drop, List.getElem?_eq_getElem (by omega)]
  simp
theorem len_mid {xs ys : List S39} (hl : xs.length = ys.length) {i : Nat} (hi : i ≤ ys.length) : (ys.take i ++ xs.drop i).length = ys.length := by
  rw [List.length_append, List.length_take, List.length_drop]; omega

/-- The positions but for one, of the first j. -/
def pre (l : List Int) (skip : Int) : Nat → List Int
  | 0 => []
  | j + 1 => if (j : Int) = skip then pre l skip j else pre l skip j ++ [l.getD j 0]
theorem pre_len (l : List Int) (skip : Int) : ∀ j, (pre l skip j).length ≤ j
  | 0 => by simp [pre]
  | j + 1 => by
    have := pre_len l skip j
    simp only [pre]
    split
    · omega
    · simp; omega
theorem mem_pre (l : List Int) (skip : Int) (p : Int) : ∀ j, p ∈ pre l skip j ↔ ∃ i, i < j ∧ (i : Int) ≠ skip ∧ p = l.getD i 0
  | 0 => by simp [pre]
  | j + 1 => by
    have ih := mem_pre l skip p j
    simp only [pre]
    split
    · rename_i h
      rw [ih]
      constructor
      · rintro ⟨i, h1, h2, h3⟩; exact ⟨i, by omega, h2, h3⟩
      · rintro ⟨i, h1, h2, h3⟩
        exact ⟨i, by
          have : i ≠ j := fun e => h2 (e ▸ h)
          omega, h2, h3⟩
    · rename_i h
      rw [List.mem_append, List.mem_singleton, ih]
      constructor
      · rintro (⟨i, h1, h2, h3⟩ | h3)
        · exact ⟨i, by omega, h2, h3⟩
        · exact ⟨j, by omega, h, h3⟩
      · rintro ⟨i, h1, h2, h3⟩
        by_cases e : i = j
        · subst e; exact .inr h3
        · exact .inl ⟨i, by omega, h2, h3⟩

variable {t : List Int} {acts : List S39} {tol : Int} {l : List Int}
/-- A row of the inner loop. -/
theorem keptF_l3 (hg : Good t acts) (q : List Int) (hq : q.length ≤ 9) {j : Nat} (hj : j < l.length) (hl9 : l.length ≤ 9) (hr : 0 ≤ l[j] ∧ l[j] < t.length) {skip : Int} {r : Bool}
    (hn : Ev (fun k => cobblelaw07_FlatKept.l2 k tol l skip ((j + 1 : Nat) : Int) t acts (subT (q ++ [l[j]]) t) (subA (q ++ [l[j]]) acts)) r) :
    ∀ d i : Nat, i + d = acts.length → Ev (fun k => cobblelaw07_FlatKept.l3 k tol l skip (j : Int) (i : Int) t acts (subT (q ++ [l[j]]) t) ((subA (q ++ [l[j]]) acts).take i ++ (subA q acts).drop i)) r := by
  intro d
  have hL : (subA q acts).length = (subA (q ++ [l[j]]) acts).length := by simp [subA]
  have hA : (subA (q ++ [l[j]]) acts).length = acts.length := by simp [subA]
  induction d with
  | zero =>
    intro i hi
    have e : (subA (q ++ [l[j]]) acts).take i ++ (subA q acts).drop i = subA (q ++ [l[j]]) acts := by rw [List.take_of_length_le (by omega), List.drop_of_length_le (by omega), List.append_nil]
    rw [e]
    exact Ev.step (fun k => by simp only [cobblelaw07_FlatKept.l3]; rw [if_neg (by omega), wk (by omega)]) hn
  | succ d ih =>
    intro i hi
    have hlt : i < acts.length := by omega
    have hm := hg.m3
    have hln := hg.len _ (List.getElem_mem hlt)
    have hx : (subA q acts)[i]'(by omega) = { acts[i] with f1 := q.map fun p => acts[i].f1.getD p.toNat 0 } := by simp [subA]
    have hy : (subA (q ++ [l[j]]) acts)[i]'(by omega) = { acts[i] with f1 := (q ++ [l[j]]).map fun p => acts[i].f1.getD p.toNat 0 } := by simp [subA]
    have h1 := get_mid hL (i := i) (by omega)
    have h2 := len_mid hL (i := i) (by omega)
    have hrd : rd acts[i].f1 l[j] = acts[i].f1.getD l[j].toNat 0 := rfl
    refine Ev.step (fun k => ?_) (ih (i + 1) (by omega))
    simp only [cobblelaw07_FlatKept.l3, h1, hx, rdT hlt, rdI hj, hrd]
    rw [if_pos (by omega), if_pos (by omega), if_pos (by omega), if_pos (by omega), if_pos (by omega), if_pos (by omega), if_pos (by omega), if_pos (by simp; omega), wk (by omega)]
    congr 1
    exact set_mid hL (by omega) _ (by rw [hy]; simp)
theorem keptF_l2 (hg : Good t acts) (hl9 : l.length ≤ 9) (hs : l.Pairwise (· < ·)) (hr : ∀ p ∈ l, 0 ≤ p ∧ p < t.length) {skip : Int} {r : Bool}
    (hn : Ev (fun k => cobblelaw07_FlatKept.l2 k tol l skip (l.length : Int) t acts (subT (pre l skip l.length) t) (subA (pre l skip l.length) acts)) r) :
    ∀ d j : Nat, j + d = l.length → Ev (fun k => cobblelaw07_FlatKept.l2 k tol l skip (j : Int) t acts (subT (pre l skip j) t) (subA (pre l skip j) acts)) r := by
  intro d
  induction d with
  | zero =>
    intro j hj
    have : j = l.length := by omega
    subst this
    exact hn
  | succ d ih =>
    intro j hj
    have hlt : j < l.length := by omega
    have hp := hr _ (List.getElem_mem hlt)
    have hn9 := hg.n9
    have hw : inR 0 (wrap64 ((t.length : Int) - 1)) l[j] = true := inR_iff.2 ⟨hp.1, by unfold wrap64; omega⟩
    have hj6 : Ev (fun k => cobblelaw07_FlatKept.j6 k tol l skip (j : Int) false t acts (subT (pre l skip j) t) (subA (pre l skip j) acts)) r := by
      by_cases e : (j : Int) = skip
      · have e2 : pre l skip (j + 1) = pre l skip j := by simp only [pre]; rw [if_pos e]
        have := ih (j + 1) (by omega)
        rw [e2] at this
        exact Ev.step (fun k => by simp only [cobblelaw07_FlatKept.j6]; rw [if_neg (by simp), if_pos e, wk (by omega)]) this
      · have e2 : pre l skip (j + 1) = pre l skip j ++ [l[j]] := by simp only [pre]; rw [if_neg e, List.getD_eq_getElem?_getD, List.getElem?_eq_getElem hlt]; rfl
        have := ih (j + 1) (by omega)
        rw [e2] at this
        have h3 := keptF_l3 hg (pre l skip j) (by have := pre_len l skip j; omega) hlt hl9 hp this acts.length 0 (by omega)
        have hpl := pre_len l skip j
        have hT : subT (pre l skip j) t ++ [rd t l[j]] = subT (pre l skip j ++ [l[j]]) t := by simp [subT, rd]
        have hA0 : (subA (pre l skip j ++ [l[j]]) acts).take 0 ++ (subA (pre l skip j) acts).drop 0 = subA (pre l skip j) acts := by simp
        rw [hA0] at h3
        exact Ev.step (fun k => by simp only [cobblelaw07_FlatKept.j6, rdI hlt]; rw [if_neg (by simp), if_neg e, if_pos (by omega), if_pos (by omega), if_pos (by omega), if_pos (by omega), if_pos (by simp [subT]; omega), hT]; rfl) h3
    by_cases h0 : (j : Int) > 0
    · have hj1 : wrap64 ((j : Int) - 1) = ((j - 1 : Nat) : Int) := by unfold wrap64; omega
      have hlt1 : j - 1 < l.length := by omega
      have hord : decide (l[j] ≤ l[j - 1]) = false := by
        have := List.pairwise_iff_getElem.1 hs (j - 1) j hlt1 hlt (by omega)
        exact decide_eq_false (by omega)
      exact Ev.step (fun k => by simp only [cobblelaw07_FlatKept.l2, within_f, Option.bind_some, rdI hlt, hw, hj1, rdI hlt1, hord]; rw [if_pos (by omega), if_pos (by omega), if_pos trivial, if_pos h0, if_pos (by omega), if_pos (by omega)]) hj6
    · exact Ev.step (fun k => by simp only [cobblelaw07_FlatKept.l2, within_f, Option.bind_some, rdI hlt, hw]; rw [if_pos (by omega), if_pos (by omega), if_pos trivial, if_neg h0]) hj6
theorem keptF_l1 (hg : Good t acts) {skip : Int} {r : Bool} (hn : Ev (fun k => cobblelaw07_FlatKept.l2 k tol l skip 0 t acts [] (subA [] acts)) r) :
    ∀ d i : Nat, i + d = acts.length → Ev (fun k => cobblelaw07_FlatKept.l1 k tol l skip (i : Int) t acts ((subA [] acts).take i ++ acts.drop i)) r := by
  have hL : acts.length = (subA [] acts).length := by simp [subA]
  intro d
  induction d with
  | zero =>
    intro i hi
    have e : (subA [] acts).take i ++ acts.drop i = subA [] acts := by rw [List.take_of_length_le (by omega), List.drop_of_length_le (by omega), List.append_nil]
    rw [e]
    exact Ev.step (fun k => by simp only [cobblelaw07_FlatKept.l1]; rw [if_neg (by omega)]) hn
  | succ d ih =>
    intro i hi
    have hlt : i < acts.length := by omega
    have hm := hg.m3
    have h1 := get_mid hL (i := i) (by omega)
    have h2 := len_mid hL (i := i) (by omega)
    refine Ev.step (fun k => ?_) (ih (i + 1) (by omega))
    simp only [cobblelaw07_FlatKept.l1, h1]
    rw [if_pos (by omega), if_pos (by omega), wk (by omega)]
    congr 1
    exact set_mid hL (by omega) _ (by simp [subA])
/-- What is true of the positions that contradict each other. -/
structure Contra (t : List Int) (acts : List S39) (tol : Int) (l : List Int) : Prop where
  n1 : 1 ≤ l.length
  n9 : l.length ≤ t.length
  s : l.Pairwise (· < ·)
  r : ∀ p ∈ l, 0 ≤ p ∧ p < t.length
  no : ¬ ∃ x ∈ sets acts, maxd (subT l t) (subA l acts) x ≤ tol
  yes : ∀ i < l.length, 2 ≤ l.length → ∃ x ∈ sets acts, maxd (subT (l.eraseIdx i) t) (subA (l.eraseIdx i) acts) x ≤ tol
theorem pre_all : ∀ (l : List Int) (skip : Int), skip < 0 → pre l skip l.length = l := by
  intro l skip hs
  have : ∀ j, j ≤ l.length → pre l skip j = l.take j := by
    intro j
    induction j with
    | zero => intro _; simp [pre]
    | succ j ih =>
      intro hj
      simp only [pre]
      rw [if_neg (by omega), ih (by omega), List.take_succ_eq_append_getElem (by omega), List.getD_eq_getElem?_getD, List.getElem?_eq_getElem (by omega)]
      rfl
  rw [this _ (Nat.le_refl _), List.take_length]
theorem pre_yes (hc : Contra t acts tol l) (h0 : 0 ≤ tol) {i : Nat} (hi : i < l.length) (hne : (pre l (i : Int) l.length).length ≠ 0) : ∃ x ∈ sets acts, maxd (subT (pre l (i : Int) l.length) t) (subA (pre l (i : Int) l.length) acts) x ≤ tol := by
  have h2 : 2 ≤ l.length := by
    apply Classical.byContradiction
    intro hlt
    have h1 := hc.n1
    have : pre l (i : Int) l.length = [] := by
      have e1 : l.length = 1 := by omega
      have e2 : i = 0 := by omega
      subst e2
      rw [e1]
      simp [pre]
    rw [this] at hne
    exact hne rfl
  obtain ⟨x, hx, hle⟩ := hc.yes i hi h2
  refine ⟨x, hx, (maxd_sub _ _ _ _ _ h0).2 fun p hp => ?_⟩
  refine (maxd_sub _ _ _ _ _ h0).1 hle p ?_
  obtain ⟨m, hm, hmi, rfl⟩ := (mem_pre l (i : Int) p l.length).1 hp
  rw [List.mem_eraseIdx_iff_getElem]
  exact ⟨m, hm, fun e => hmi (by rw [e]), by rw [List.getD_eq_getElem?_getD, List.getElem?_eq_getElem hm]; rfl⟩
theorem keptF_l0 (hg : Good t acts) (h0 : 0 ≤ tol) (h1 : tol ≤ 100000) (hc : Contra t acts tol l) : ∀ d i : Nat, i + d = l.length + 1 → Ev (fun k => cobblelaw07_FlatKept.l0 k tol l ((i : Int) - 1) t acts) true := by
  have hn9 := hg.n9
  have hc9 := hc.n9
  intro d
  induction d with
  | zero =>
    intro i hi
    exact Ev.step (f := fun _ => some true) (fun k => by simp only [cobblelaw07_FlatKept.l0]; rw [if_neg (by omega)]) (Ev.now _)
  | succ d ih =>
    intro i hi
    have hnext := ih (i + 1) (by omega)
    have hw : wrap64 (((i : Int) - 1) + 1) = ((i + 1 : Nat) : Int) - 1 := by unfold wrap64; omega
    have hend : Ev (fun k => cobblelaw07_FlatKept.l2 k tol l ((i : Int) - 1) (l.length : Int) t acts (subT (pre l ((i : Int) - 1) l.length) t) (subA (pre l ((i : Int) - 1) l.length) acts)) true := by
      by_cases he : (pre l ((i : Int) - 1) l.length).length = 0
      · exact Ev.step (fun k => by simp only [cobblelaw07_FlatKept.l2]; rw [if_neg (by omega), if_pos (by simp [subT, he]), hw]) hnext
      · have hgs := good_sub hg (pre l ((i : Int) - 1) l.length) (by omega) (by have := pre_len l ((i : Int) - 1) l.length; omega)
        have hl0 : ¬ ((subT (pre l ((i : Int) - 1) l.length) t).length : Int) = 0 := by simp only [subT, List.length_map]; omega
        obtain _ | i := i
        · have hp : pre l ((0 : Nat) - 1 : Int) l.length = l := pre_all l _ (by omega)
          have hf := first_no (tol := tol) hgs h0 h1 (by rw [hp, sets_sub]; exact hc.no)
          exact Ev.step (fun k => by simp only [cobblelaw07_FlatKept.l2]; rw [if_neg (by omega), if_neg hl0, hf, Option.bind_some, if_neg (by simp), hw]) hnext
        · have e : (((i + 1 : Nat) : Int) - 1) = (i : Int) := by omega
          rw [e] at he hgs hl0 ⊢
          have hw2 : wrap64 ((i : Int) + 1) = ((i + 1 + 1 : Nat) : Int) - 1 := by rw [← hw, e]
          obtain ⟨s, hf⟩ := first_yes (tol := tol) hgs h0 h1 (by rw [sets_sub]; exact pre_yes hc h0 (by omega) he)
          exact Ev.step (fun k => by simp only [cobblelaw07_FlatKept.l2]; rw [if_neg (by omega), if_neg hl0, hf, Option.bind_some, if_neg (by simp), hw2]) hnext
    have h2 := keptF_l2 hg (by omega) hc.s hc.r hend l.length 0 (by omega)
    have h3 := keptF_l1 (tol := tol) (l := l) (skip := (i : Int) - 1) hg h2 acts.length 0 (by omega)
    have e0 : (subA [] acts).take 0 ++ acts.drop 0 = acts := by simp
    rw [e0] at h3
    exact Ev.step (fun k => by simp only [cobblelaw07_FlatKept.l0]; rw [if_pos (by omega)]) (Ev.bind (copyRules_f hg) h3)

theorem FlatKept_pure (t : List Int) (acts : List S39) (tol : Int) : ∃ k, cobblelaw07_FlatKept.f k t acts tol = some true := by
  apply Ev.rounds
  obtain ⟨b, hb⟩ := few_f t acts
  obtain ⟨e, he, hez⟩ := rulesErr_f t acts
  have hj0 : Ev (fun k => cobblelaw07_FlatKept.j0 k tol true t acts) true := Ev.step (f := fun _ => some true) (fun k => by simp only [cobblelaw07_FlatKept.j0]; rw [if_pos trivial]) (Ev.now _)
  refine Ev.congr (f := fun k => (cobblelaw07_Few.f k t acts).bind fun t226 => (if t226 = true then ((cobbleref07_RulesErr.f k t acts).bind fun t227 => (if t227 = 0 then (cobblelaw07_FlatKept.j0 k tol (!inR 0 100000 tol) t acts) else (cobblelaw07_FlatKept.j0 k tol true t acts))) else (cobblelaw07_FlatKept.j0 k tol true t acts))) (fun k => by
    simp only [cobblelaw07_FlatKept.f, cobblelaw07_awake.f, Option.bind_some, within_f]; rw [if_pos trivial]) ?_
  refine Ev.bind hb ?_
  cases b with
  | false => exact Ev.congr (fun k => by rw [if_neg (by simp)]) hj0
  | true =>
    refine Ev.congr (fun k => by rw [if_pos rfl]) (Ev.bind he ?_)
    by_cases hz : e = 0
    · refine Ev.congr (fun k => by rw [if_pos hz]) ?_
      have hg := hez hz
      cases hw : inR 0 100000 tol with
      | false => exact hj0
      | true =>
        obtain ⟨h0, h1⟩ := inR_iff.1 hw
        obtain ⟨bs, m, hbest, hmin⟩ := best_f hg
        by_cases hk : ∃ x ∈ sets acts, maxd t acts x ≤ tol
        · obtain ⟨s, hf⟩ := first_yes hg h0 h1 hk
          have hcn : contraL t acts tol = none := (contra_none t acts tol h0 hg.n1).2 hk
          have hcf : flat_ContradictingIn.f t acts tol = some ([], 12) := by unfold flat_ContradictingIn.f; rw [if_pos (tol_zero hg h0 h1), hcn]
          have hmt := (hmin tol).1 hk
          have hj1 : Ev (fun k => cobblelaw07_FlatKept.j1 k tol 0 [] 12 false t acts) true := Ev.step (f := fun _ => some true) (fun k => by simp only [cobblelaw07_FlatKept.j1]; rw [if_neg (by simp), if_pos trivial]; rfl) (Ev.now _)
          refine Ev.step (f := fun k => (cobbleref07_CopyRules.f k t acts).bind fun bt229 => ((flat_Best.f bt229.1 bt229.2).bind fun bt235 => ((cobbleref07_CopyRules.f k t acts).bind fun bt240 => ((flat_FirstWithin.f bt240.1 bt240.2 tol).bind fun bt246 => ((cobbleref07_CopyRules.f k t acts).bind fun bt250 => ((flat_ContradictingIn.f bt250.1 bt250.2 tol).bind fun bt256 => (if bt235.2.2 = 0 then (if ((bt246.2 == 0) != (decide (tol ≥ bt235.2.1))) = true then (cobblelaw07_FlatKept.j1 k tol bt246.2 bt256.1 bt256.2 true t acts) else (cobblelaw07_FlatKept.j1 k tol bt246.2 bt256.1 bt256.2 ((bt256.2 == 12) != (bt246.2 == 0)) t acts)) else (cobblelaw07_FlatKept.j1 k tol bt246.2 bt256.1 bt256.2 true t acts)))))))) (fun k => by simp only [cobblelaw07_FlatKept.j0]; rw [if_neg (by simp)]) ?_
          refine Ev.bind (copyRules_f hg) (Ev.congr (fun k => by rw [hbest, Option.bind_some]) (Ev.bind (copyRules_f hg) (Ev.congr (fun k => by rw [hf, Option.bind_some]) (Ev.bind (copyRules_f hg) (Ev.congr (fun k => by rw [hcf, Option.bind_some, if_pos rfl, if_neg (by simp; omega)]; rfl) hj1)))))
        · have hf := first_no hg h0 h1 hk
          cases hcn : contraL t acts tol with
          | none => exact absurd ((contra_none t acts tol h0 hg.n1).1 hcn) hk
          | some l =>
            have hcf : flat_ContradictingIn.f t acts tol = some (l, 0) := by unfold flat_ContradictingIn.f; rw [if_pos (tol_zero hg h0 h1), hcn]
            have hmt : ¬ m ≤ tol := fun h => hk ((hmin tol).2 h)
            obtain ⟨c1, c2, c3, c4, c5, c6⟩ := contra_some h0 hg.n9 hcn
            have hlw : inR 1 (t.length : Int) (l.length : Int) = true := inR_iff.2 ⟨by omega, by omega⟩
            have hl0 : Ev (fun k => cobblelaw07_FlatKept.l0 k tol l (-1) t acts) true := keptF_l0 hg h0 h1 ⟨c1, c2, c3, c4, c5, c6⟩ (l.length + 1) 0 (by omega)
            have hj2 : Ev (fun k => cobblelaw07_FlatKept.j2 k tol l false t acts) true := Ev.step (fun k => by simp only [cobblelaw07_FlatKept.j2]; rw [if_neg (by simp)]) hl0
            have hj1 : Ev (fun k => cobblelaw07_FlatKept.j1 k tol 12 l 0 false t acts) true := Ev.step (fun k => by simp only [cobblelaw07_FlatKept.j1, within_f, Option.bind_some, hlw]; rw [if_neg (by simp), if_neg (by decide), if_pos trivial, if_pos trivial]; rfl) hj2
            refine Ev.step (f := fun k => (cobbleref07_CopyRules.f k t acts).bind fun bt229 => ((flat_Best.f bt229.1 bt229.2).bind fun bt235 => ((cobbleref07_CopyRules.f k t acts).bind fun bt240 => ((flat_FirstWithin.f bt240.1 bt240.2 tol).bind fun bt246 => ((cobbleref07_CopyRules.f k t acts).bind fun bt250 => ((flat_ContradictingIn.f bt250.1 bt250.2 tol).bind fun bt256 => (if bt235.2.2 = 0 then (if ((bt246.2 == 0) != (decide (tol ≥ bt235.2.1))) = true then (cobblelaw07_FlatKept.j1 k tol bt246.2 bt256.1 bt256.2 true t acts) else (cobblelaw07_FlatKept.j1 k tol bt246.2 bt256.1 bt256.2 ((bt256.2 == 12) != (bt246.2 == 0)) t acts)) else (cobblelaw07_FlatKept.j1 k tol bt246.2 bt256.1 bt256.2 true t acts)))))))) (fun k => by simp only [cobblelaw07_FlatKept.j0]; rw [if_neg (by simp)]) ?_
            refine Ev.bind (copyRules_f hg) (Ev.congr (fun k => by rw [hbest, Option.bind_some]) (Ev.bind (copyRules_f hg) (Ev.congr (fun k => by rw [hf, Option.bind_some]) (Ev.bind (copyRules_f hg) (Ev.congr (fun k => by rw [hcf, Option.bind_some, if_pos rfl, if_neg (by simp; omega)]; rfl) hj1)))))
    · exact Ev.congr (fun k => by rw [if_neg hz]) hj0
end Go.Proofs.Ytbijfhmpafjceaa.E
