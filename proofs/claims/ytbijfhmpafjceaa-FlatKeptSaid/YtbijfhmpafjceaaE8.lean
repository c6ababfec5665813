import Derived.Test.YtbijfhmpafjceaaE7
import Derived.Test.YtbijfhmpafjceaaK2
set_option linter.unusedSimpArgs false
set_option linter.unusedVariables false
namespace Go.Proofs.Ytbijfhmpafjceaa.E
open Go.RowKit Go.Proofs.YtbijfhmpafjceaaW.PrintWords Go.Proofs.YtbijfhmpafjceaaW.PrintMore Go.Proofs.Ytbijfhmpafjceaa.PFlatKept

/-- Valid rules. -/
structure Good (t : List Int) (acts : List S39) : Prop where
  n1 : 1 ≤ t.length
  n9 : t.length ≤ 9
  tt : ∀ x ∈ t, -100000 ≤ x ∧ x ≤ 100000
  m1 : 1 ≤ acts.length
  m3 : acts.length ≤ 3
  rng : ∀ a ∈ acts, -10 ≤ a.f0.f0 ∧ a.f0.f0 ≤ a.f0.f1 ∧ a.f0.f1 ≤ 10
  len : ∀ a ∈ acts, a.f1.length = t.length
  eff : ∀ a ∈ acts, ∀ x ∈ a.f1, -1000 ≤ x ∧ x ≤ 1000

theorem fst1_unl (b : Bool) (e : Int) (he : e ≠ 0) (l : List Int) : fst1 (unl b e :: l) = 0 ↔ b = true ∧ fst1 l = 0 := by
  cases b <;> simp [unl, fst1, he]

theorem actE_zero (lo hi : Int) (eff : List Int) (n : Int) : actE lo hi eff n = 0 ↔ (-10 ≤ lo ∧ lo ≤ hi ∧ hi ≤ 10) ∧ (eff.length : Int) = n ∧ ∀ x ∈ eff, -1000 ≤ x ∧ x ≤ 1000 := by
  unfold actE
  rw [fst1_unl _ _ (by decide), fst1_unl _ _ (by decide), fst1_unl _ _ (by decide), fst1_unl _ _ (by decide)]
  simp only [sml, fst1, Bool.and_eq_true, decide_eq_true_eq, beq_iff_eq, List.all_eq_true, and_true]
  constructor
  · rintro ⟨⟨⟨h1, h2⟩, h3, h4⟩, h5, h6, h7⟩; exact ⟨⟨h1, h5, h4⟩, h6, h7⟩
  · rintro ⟨⟨h1, h5, h4⟩, h6, h7⟩; exact ⟨⟨⟨h1, by omega⟩, by omega, h4⟩, h5, h6, h7⟩

theorem actsAt_zero (n : Int) : ∀ (i : Nat) (acts : List S39), (actsAt n i acts).2 = 0 ↔ ∀ a ∈ acts, actE a.f0.f0 a.f0.f1 a.f1 n = 0
  | i, [] => by simp [actsAt]
  | i, a :: l => by
    simp only [actsAt, List.forall_mem_cons]
    split
    · rename_i h; rw [actsAt_zero n (i + 1) l]; simp [h]
    · rename_i h; simp [h]

theorem topE_zero (t : List Int) (acts : List S39) : topE t acts = 0 ↔ (1 ≤ t.length ∧ t.length ≤ 9 ∧ ∀ x ∈ t, -100000 ≤ x ∧ x ≤ 100000) ∧ 1 ≤ acts.length ∧ acts.length ≤ 3 := by
  unfold topE
  rw [fst1_unl _ _ (by decide), fst1_unl _ _ (by decide), fst1_unl _ _ (by decide), fst1_unl _ _ (by decide), fst1_unl _ _ (by decide)]
  simp only [sml, fst1, Bool.and_eq_true, decide_eq_true_eq, List.all_eq_true, and_true]
  constructor
  · rintro ⟨h1, h2, h3, h4, h5⟩; exact ⟨⟨h1, by omega, h3⟩, h4, by omega⟩
  · rintro ⟨⟨h1, h2, h3⟩, h4, h5⟩; exact ⟨h1, by omega, h3, h4, by omega⟩

theorem rulesE_zero (t : List Int) (acts : List S39) : (rulesE t acts).2 = 0 ↔ Good t acts := by
  unfold rulesE
  constructor
  · intro h
    split at h
    · rename_i h0
      obtain ⟨⟨h1, h2, h3⟩, h4, h5⟩ := (topE_zero t acts).1 h0
      have h6 := (actsAt_zero _ _ _).1 h
      exact ⟨h1, h2, h3, h4, h5, fun a ha => ((actE_zero _ _ _ _).1 (h6 a ha)).1, fun a ha => by have := ((actE_zero _ _ _ _).1 (h6 a ha)).2.1; omega, fun a ha => ((actE_zero _ _ _ _).1 (h6 a ha)).2.2⟩
    · rename_i h0; exact absurd h h0
  · intro h
    rw [if_pos ((topE_zero t acts).2 ⟨⟨h.n1, h.n9, h.tt⟩, h.m1, h.m3⟩)]
    exact (actsAt_zero _ _ _).2 (fun a ha => (actE_zero _ _ _ _).2 ⟨h.rng a ha, by have := h.len a ha; omega, h.eff a ha⟩)

/-- What is left of x at a position. -/
def dvn (p : Nat) : List S39 → List Int → Int → Int
  | a :: ar, y :: ys, x => dvn p ar ys (x - y * a.f1.getD p 0)
  | _, _, x => x
def tens (s : List Int) : Prop := ∀ x ∈ s, -10 ≤ x ∧ x ≤ 10

theorem wrap64_id {x : Int} (h : -9223372036854775808 ≤ x) (h' : x ≤ 9223372036854775807) : wrap64 x = x := by unfold wrap64; omega

theorem mul_bound {x y : Int} (hx : -10 ≤ x ∧ x ≤ 10) (hy : -1000 ≤ y ∧ y ≤ 1000) : -10000 ≤ x * y ∧ x * y ≤ 10000 := by
  obtain ⟨h1, h2⟩ := hx
  have : x = -10 ∨ x = -9 ∨ x = -8 ∨ x = -7 ∨ x = -6 ∨ x = -5 ∨ x = -4 ∨ x = -3 ∨ x = -2 ∨ x = -1 ∨ x = 0 ∨ x = 1 ∨ x = 2 ∨ x = 3 ∨ x = 4 ∨ x = 5 ∨ x = 6 ∨ x = 7 ∨ x = 8 ∨ x = 9 ∨ x = 10 := by omega
  rcases this with rfl | rfl | rfl | rfl | rfl | rfl | rfl | rfl | rfl | rfl | rfl | rfl | rfl | rfl | rfl | rfl | rfl | rfl | rfl | rfl | rfl <;> omega

theorem deviation_l0 {t : List Int} {acts : List S39} {s : List Int} (hg : Good t acts) (hs : s.length = acts.length) (ht : tens s) (p : Nat) (hp : p < t.length) :
    ∀ (d i k : Nat) (x : Int), i + d = acts.length → d < k → -100000 - 10000 * i ≤ x → x ≤ 100000 + 10000 * i →
      flat_rules_deviation.l0 k s (p : Int) x acts (acts.length : Int) (i : Int) = some (dvn p (acts.drop i) (s.drop i) x) := by
  intro d
  induction d with
  | zero =>
    intro i k x hi hk h1 h2
    obtain ⟨k, rfl⟩ : ∃ m, k = m + 1 := ⟨k - 1, by omega⟩
    simp only [flat_rules_deviation.l0]
    rw [if_neg (by omega), List.drop_of_length_le (by omega)]
    simp [dvn]
  | succ d ih =>
    intro i k x hi hk h1 h2
    obtain ⟨k, rfl⟩ : ∃ m, k = m + 1 := ⟨k - 1, by omega⟩
    have hia : i < acts.length := by omega
    have his : i < s.length := by omega
    have hm := hg.m3
    have ea : rd_T39 acts (i : Int) = acts[i] := by simp [rd_T39, List.getD_eq_getElem?_getD, hia]
    have es : rd s (i : Int) = s[i] := by simp [rd, List.getD_eq_getElem?_getD, his]
    have hl := hg.len _ (List.getElem_mem hia)
    have hpe : p < acts[i].f1.length := by omega
    have ee : rd acts[i].f1 (p : Int) = acts[i].f1[p] := by simp [rd, List.getD_eq_getElem?_getD, hpe]
    have b1 := ht _ (List.getElem_mem his)
    have b2 := hg.eff _ (List.getElem_mem hia) _ (List.getElem_mem hpe)
    have b3 := mul_bound b1 b2
    simp only [flat_rules_deviation.l0]
    rw [if_pos (by omega), if_pos (by omega), if_pos (by omega), if_pos (by omega), if_pos (by omega), ea, if_pos (by omega), es, ee]
    rw [wrap64_id (x := s[i] * acts[i].f1[p]) (by omega) (by omega), wrap64_id (x := x - _) (by omega) (by omega), show wrap64 ((i : Int) + 1) = ((i + 1 : Nat) : Int) from by unfold wrap64; omega]
    rw [ih (i + 1) k _ (by omega) (by omega) (by omega) (by omega)]
    rw [List.drop_eq_getElem_cons hia, List.drop_eq_getElem_cons his]
    simp only [dvn]
    rw [List.getD_eq_getElem?_getD, List.getElem?_eq_getElem hpe]
    rfl

theorem deviation_f {t : List Int} {acts : List S39} {s : List Int} (hg : Good t acts) (hs : s.length = acts.length) (ht : tens s) (p : Nat) (hp : p < t.length) (k : Nat) (hk : acts.length < k) :
    flat_rules_deviation.f k t acts s (p : Int) = some (dvn p acts s (t.getD p 0)) := by
  have e : rd t (p : Int) = t[p] := by simp [rd, List.getD_eq_getElem?_getD, hp]
  have b := hg.tt _ (List.getElem_mem hp)
  unfold flat_rules_deviation.f
  rw [if_pos (by omega), if_pos (by omega), e]
  have := deviation_l0 hg hs ht p hp acts.length 0 k t[p] (by omega) (by omega) (by omega) (by omega)
  simp only [List.drop_zero] at this
  rw [List.getD_eq_getElem?_getD, List.getElem?_eq_getElem hp]
  exact this

theorem dvn_bound {acts : List S39} (n : Nat) (hr : ∀ a ∈ acts, ∀ x ∈ a.f1, -1000 ≤ x ∧ x ≤ 1000) : ∀ (s : List Int) (x : Int), tens s → -(x.natAbs : Int) - 10000 * acts.length ≤ dvn n acts s x ∧ dvn n acts s x ≤ x.natAbs + 10000 * acts.length := by
  induction acts with
  | nil => intro s x _; simp only [dvn, List.length_nil]; omega
  | cons a ar ih =>
    intro s x hs
    cases s with
    | nil => simp only [dvn]; omega
    | cons y ys =>
      have h1 := ih (fun b hb => hr b (List.mem_cons_of_mem _ hb)) ys (x - y * a.f1.getD n 0) (fun z hz => hs z (List.mem_cons_of_mem _ hz))
      have hy := hs y List.mem_cons_self
      have h2 : -1000 ≤ a.f1.getD n 0 ∧ a.f1.getD n 0 ≤ 1000 := by
        rw [List.getD_eq_getElem?_getD]
        cases hq : a.f1[n]? with
        | none => simp
        | some z => exact hr a List.mem_cons_self z (List.mem_of_getElem? hq)
      have h3 := mul_bound hy h2
      simp only [dvn, List.length_cons]
      omega

/-- The size of a number. -/
def sz (x : Int) : Int := mx x (-x)
theorem size_f {x : Int} (h : -9223372036854775808 < x) (h' : x ≤ 9223372036854775807) : flat_size.f x = some (sz x) := by
  unfold flat_size.f sz
  rw [wrap64_id (by omega) (by omega)]

/-- The greatest size of what is left, from position i on. -/
def maxFrom (t : List Int) (acts : List S39) (s : List Int) : Nat → Nat → Int → Int
  | 0, _, m => m
  | d + 1, i, m => maxFrom t acts s d (i + 1) (mx m (sz (dvn i acts s (t.getD i 0))))
def maxd (t : List Int) (acts : List S39) (s : List Int) : Int := maxFrom t acts s t.length 0 0

theorem getD_bound {t : List Int} {acts : List S39} (hg : Good t acts) (p : Nat) : -100000 ≤ t.getD p 0 ∧ t.getD p 0 ≤ 100000 := by
  rw [List.getD_eq_getElem?_getD]
  cases hq : t[p]? with
  | none => simp
  | some z => exact hg.tt z (List.mem_of_getElem? hq)

theorem dev_bound {t : List Int} {acts : List S39} {s : List Int} (hg : Good t acts) (ht : tens s) (p : Nat) : -130000 ≤ dvn p acts s (t.getD p 0) ∧ dvn p acts s (t.getD p 0) ≤ 130000 := by
  have h1 := dvn_bound p hg.eff s (t.getD p 0) ht
  have h2 := getD_bound hg p
  have := hg.m3
  omega

theorem maximum_l0 {t : List Int} {acts : List S39} {s : List Int} (hg : Good t acts) (hs : s.length = acts.length) (ht : tens s) :
    ∀ (d i k : Nat) (m : Int), i + d = t.length → d + acts.length + 1 < k →
      flat_rules_maximum.l0 k s m (t.length : Int) (i : Int) t acts = some (maxFrom t acts s d i m) := by
  intro d
  induction d with
  | zero =>
    intro i k m hi hk
    obtain ⟨k, rfl⟩ : ∃ m, k = m + 1 := ⟨k - 1, by omega⟩
    simp only [flat_rules_maximum.l0]
    rw [if_neg (by omega)]
    rfl
  | succ d ih =>
    intro i k m hi hk
    obtain ⟨k, rfl⟩ : ∃ m, k = m + 1 := ⟨k - 1, by omega⟩
    have hb := dev_bound (s := s) hg ht i
    have hn := hg.n9
    simp only [flat_rules_maximum.l0]
    rw [if_pos (by omega), deviation_f hg hs ht i (by omega) k (by omega), Option.bind_some, size_f (by omega) (by omega), Option.bind_some,
      show wrap64 ((i : Int) + 1) = ((i + 1 : Nat) : Int) from by unfold wrap64; omega, ih (i + 1) k _ (by omega) (by omega)]
    rfl

theorem maximum_any (A0 A1 A2 : Option Addr) (c0 c1 c2 : Nat) (t : List Int) (acts : List S39) (s : List Int) (w : World) (hg : Good t acts) (hs : s.length = acts.length) (ht : tens s)
    (hr0 : Kd.C (Kd.int .i64) w A0 t.length t) (hc0 : t.length ≤ c0) (hr1 : Kd.C k39 w A1 acts.length acts) (hc1 : acts.length ≤ c1) (hr2 : Kd.C (Kd.int .i64) w A2 s.length s) (hc2 : s.length ≤ c2) :
    Calls Try.prog 35 #[.agg #[.slice A0 t.length c0, .slice A1 acts.length c1], .slice A2 s.length c2] w fun e w' => e = .returned (.int .i64 (maxd t acts s)) ∧ Below w.heap.size w w' :=
  flat_rules_maximum.calls (t.length + acts.length + 2) A0 c0 t A1 c1 acts A2 c2 s _ w hr0 hc0 hr1 hc1 hr2 hc2 (maximum_l0 hg hs ht t.length 0 _ 0 (by omega) (by omega))

end Go.Proofs.Ytbijfhmpafjceaa.E
