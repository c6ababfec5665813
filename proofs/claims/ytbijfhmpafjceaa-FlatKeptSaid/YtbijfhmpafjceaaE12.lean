import Derived.Test.YtbijfhmpafjceaaE11
set_option linter.unusedVariables false
set_option linter.unusedSimpArgs false
namespace Go.Proofs.Ytbijfhmpafjceaa.E
open Go.RowKit Go.Proofs.YtbijfhmpafjceaaW.PrintWords Go.Proofs.YtbijfhmpafjceaaW.PrintMore Go.Proofs.Ytbijfhmpafjceaa.PFlatKept

/-! Sets of positions, as bits. -/
theorem or_bit : ∀ x < 512, ∀ i < 9, Go.bits .or .i64 ((x : Nat) : Int) (shl .i64 1 ((i : Nat) : Int)) = ((x ||| 2 ^ i : Nat) : Int) := by decide +kernel
theorem clr_bit : ∀ x < 512, ∀ i < 9, Go.bits .andNot .i64 ((x : Nat) : Int) (shl .i64 1 ((i : Nat) : Int)) = ((x &&& (511 ^^^ 2 ^ i) : Nat) : Int) := by decide +kernel
theorem tst_bit : ∀ x < 512, ∀ i < 9, Go.bits .and .i64 (shr .i64 ((x : Nat) : Int) ((i : Nat) : Int)) 1 = if x.testBit i then 1 else 0 := by decide +kernel

def setOf (ok : Nat → Bool) : Nat → Nat
  | 0 => 0
  | n + 1 => if ok n then setOf ok n ||| 2 ^ n else setOf ok n
theorem setOf_lt (ok : Nat → Bool) : ∀ n, setOf ok n < 2 ^ n
  | 0 => by simp [setOf]
  | n + 1 => by
    have := setOf_lt ok n
    simp only [setOf]
    split
    · exact Nat.or_lt_two_pow (by rw [Nat.pow_succ]; omega) (by rw [Nat.pow_succ]; have : 0 < 2 ^ n := Nat.two_pow_pos n; omega)
    · rw [Nat.pow_succ]; omega
theorem setOf_bit (ok : Nat → Bool) : ∀ n i, (setOf ok n).testBit i = (decide (i < n) && ok i)
  | 0, i => by simp [setOf]
  | n + 1, i => by
    have := setOf_bit ok n i
    simp only [setOf]
    by_cases h : i = n
    · subst h
      split <;> simp_all [Nat.testBit_or]
    · have h2 : decide (i < n + 1) = decide (i < n) := by simp only [decide_eq_decide]; omega
      split
      · rw [Nat.testBit_or, this, Nat.testBit_two_pow_of_ne (fun e => h e.symm), Bool.or_false, h2]
      · rw [this, h2]

/-- Does s keep the tolerance at position p? -/
def okAt (t : List Int) (acts : List S39) (tol : Int) (s : List Int) (p : Nat) : Bool := decide (sz (dvn p acts s (t.getD p 0)) ≤ tol)
def keptN (t : List Int) (acts : List S39) (tol : Int) (s : List Int) : Nat := setOf (okAt t acts tol s) t.length

theorem kept_l0 {t : List Int} {acts : List S39} {s : List Int} (tol : Int) (hg : Good t acts) (hs : s.length = acts.length) (ht : tens s) :
    ∀ (d i k : Nat), i + d = t.length → d + acts.length + 1 < k →
      flat_rules_kept.l0 k s tol (setOf (okAt t acts tol s) i : Int) (t.length : Int) (i : Int) t acts = some ((keptN t acts tol s : Nat) : Int) := by
  intro d
  induction d with
  | zero =>
    intro i k hi hk
    obtain ⟨k, rfl⟩ : ∃ m, k = m + 1 := ⟨k - 1, by omega⟩
    have : i = t.length := by omega
    subst this
    simp only [flat_rules_kept.l0]
    rw [if_neg (by omega)]
    rfl
  | succ d ih =>
    intro i k hi hk
    obtain ⟨k, rfl⟩ : ∃ m, k = m + 1 := ⟨k - 1, by omega⟩
    have hb := dev_bound (s := s) hg ht i
    have hn := hg.n9
    have hi9 : i < 9 := by omega
    have hlt : setOf (okAt t acts tol s) i < 512 := Nat.lt_of_lt_of_le (setOf_lt _ i) (by rw [show (512 : Nat) = 2 ^ 9 from rfl]; exact Nat.pow_le_pow_right (by decide) (by omega))
    simp only [flat_rules_kept.l0]
    rw [if_pos (by omega), deviation_f hg hs ht i (by omega) k (by omega), Option.bind_some, size_f (by omega) (by omega), Option.bind_some,
      show wrap64 ((i : Int) + 1) = ((i + 1 : Nat) : Int) from by unfold wrap64; omega, or_bit _ hlt i hi9]
    have e : (setOf (okAt t acts tol s) (i + 1)) = if sz (dvn i acts s (t.getD i 0)) ≤ tol then setOf (okAt t acts tol s) i ||| 2 ^ i else setOf (okAt t acts tol s) i := by
      simp only [setOf, okAt, decide_eq_true_eq]
    have := ih (i + 1) k (by omega) (by omega)
    rw [e] at this
    split
    · rename_i h; rw [if_pos (by omega)]; rw [if_pos h] at this; exact this
    · rename_i h; rw [if_neg h] at this; exact this

theorem kept_at (A0 A1 A2 : Option Addr) (c0 c1 c2 : Nat) (t : List Int) (acts : List S39) (s : List Int) (n : Nat) (tol : Int) (w : World) (hg : Good t acts) (hs : s.length = n) (ht : tens s)
    (hr0 : Kd.C (Kd.int .i64) w A0 t.length t) (hc0 : t.length ≤ c0) (hr1 : Kd.C k39 w A1 acts.length acts) (hc1 : acts.length ≤ c1) (hr2 : Kd.C (Kd.int .i64) w A2 n s) (hc2 : n ≤ c2) (hn : n = acts.length := by rfl) :
    Calls Try.prog 38 #[.agg #[.slice A0 t.length c0, .slice A1 acts.length c1], .slice A2 n c2, .int .i64 tol] w fun e w' => e = .returned (.int .i64 (keptN t acts tol s : Nat)) ∧ Below w.heap.size w w' := by
  subst hs
  exact flat_rules_kept.calls (t.length + acts.length + 2) A0 c0 t A1 c1 acts A2 c2 s tol _ w hr0 hc0 hr1 hc1 hr2 hc2 (kept_l0 tol hg hn ht t.length 0 _ (by omega) (by omega))

/-- The positions of a set, below n. -/
def posIn (x n : Nat) : List Int := ((List.range n).filter fun i => x.testBit i).map Int.ofNat
def posN (x : Nat) : List Int := posIn x 9
theorem posIn_succ (x n : Nat) : posIn x (n + 1) = if x.testBit n then posIn x n ++ [(n : Int)] else posIn x n := by
  unfold posIn
  rw [List.range_succ, List.filter_append, List.map_append]
  cases hb : x.testBit n <;> simp [hb]
theorem posIn_length (x n : Nat) : (posIn x n).length ≤ n := by
  unfold posIn
  rw [List.length_map]; exact Nat.le_trans (List.length_filter_le _ _) (by simp)
theorem pos_l0 (x : Nat) (hx : x < 512) : ∀ (d i k : Nat), i + d = 9 → d < k → flat_positions.l0 k (x : Int) (posIn x i) (i : Int) = some (posN x) := by
  intro d
  induction d with
  | zero =>
    intro i k hi hk
    obtain ⟨k, rfl⟩ : ∃ m, k = m + 1 := ⟨k - 1, by omega⟩
    have : i = 9 := by omega
    subst this
    simp only [flat_positions.l0]
    rw [if_neg (by decide)]
    rfl
  | succ d ih =>
    intro i k hi hk
    obtain ⟨k, rfl⟩ : ∃ m, k = m + 1 := ⟨k - 1, by omega⟩
    have hi9 : i < 9 := by omega
    have hl := posIn_length x i
    have := ih (i + 1) k (by omega) (by omega)
    rw [posIn_succ] at this
    simp only [flat_positions.l0]
    rw [if_pos (by omega), if_pos (by omega), tst_bit x hx i hi9, show wrap64 ((i : Int) + 1) = ((i + 1 : Nat) : Int) from by unfold wrap64; omega]
    cases hb : x.testBit i with
    | true =>
      rw [hb, if_pos rfl] at this
      rw [if_pos rfl, if_pos rfl, if_pos (by omega)]
      exact this
    | false =>
      rw [hb, if_neg (by simp)] at this
      rw [if_neg (by simp)]
      exact this
theorem positions_any (x : Nat) (hx : x < 512) (w : World) : Calls Try.prog 40 #[.int .i64 (x : Int)] w fun e w' => ∃ v0_ : Value, e = .returned (v0_) ∧ Kd.R (Kd.int .i64) 3 w' w.heap.size (fun _ => True) v0_ (posN x) ∧ Below w.heap.size w w' :=
  flat_positions.calls 10 _ _ w (pos_l0 x hx 9 0 10 rfl (by decide))

/-- slices.Compare. -/
def cmpL : List Int → List Int → Int
  | [], [] => 0
  | [], _ :: _ => -1
  | _ :: _, [] => 1
  | x :: xs, y :: ys => if x < y then -1 else if y < x then 1 else cmpL xs ys
theorem cmp_f (x y : Int) : cmp_Compare_int.f x y = some (if x < y then -1 else if y < x then 1 else 0) := by
  unfold cmp_Compare_int.f cmp_isNaN_int.f
  simp only [Option.bind_some, bne_self_eq_false, Bool.false_eq_true, if_false, gt_iff_lt]
  split
  · rfl
  · split <;> rfl
theorem compare_l0 (l0 l1 : List Int) (h0 : l0.length ≤ 1000) : ∀ (d i k : Nat), i + d = l0.length → i ≤ l1.length → d < k → slices_Compare_int_int.l0 k l0 l1 l0 (l0.length : Int) (i : Int) = some (cmpL (l0.drop i) (l1.drop i)) := by
  intro d
  induction d with
  | zero =>
    intro i k hi hi1 hk
    obtain ⟨k, rfl⟩ : ∃ m, k = m + 1 := ⟨k - 1, by omega⟩
    simp only [slices_Compare_int_int.l0]
    rw [if_neg (by omega), List.drop_of_length_le (by omega)]
    by_cases h : i < l1.length
    · rw [if_pos (by omega), List.drop_eq_getElem_cons h]; rfl
    · rw [if_neg (by omega), List.drop_of_length_le (by omega)]; rfl
  | succ d ih =>
    intro i k hi hi1 hk
    obtain ⟨k, rfl⟩ : ∃ m, k = m + 1 := ⟨k - 1, by omega⟩
    have hlt : i < l0.length := by omega
    have e0 : rd l0 (i : Int) = l0[i] := by simp [rd, List.getD_eq_getElem?_getD, hlt]
    simp only [slices_Compare_int_int.l0]
    rw [if_pos (by omega), if_pos (by omega), if_pos (by omega), List.drop_eq_getElem_cons hlt]
    by_cases h : i < l1.length
    · have e1 : rd l1 (i : Int) = l1[i] := by simp [rd, List.getD_eq_getElem?_getD, h]
      rw [if_neg (by omega), if_pos (by omega), List.drop_eq_getElem_cons h, cmp_f, Option.bind_some, e0, e1, show wrap64 ((i : Int) + 1) = ((i + 1 : Nat) : Int) from by unfold wrap64; omega]
      simp only [cmpL]
      by_cases h1 : l0[i] < l1[i]
      · rw [if_pos h1, if_pos h1, if_neg (by decide)]
      · rw [if_neg h1, if_neg h1]
        by_cases h2 : l1[i] < l0[i]
        · rw [if_pos h2, if_pos h2, if_neg (by decide)]
        · rw [if_neg h2, if_neg h2, if_pos rfl]
          exact ih (i + 1) k (by omega) (by omega) (by omega)
    · rw [if_pos (by omega), List.drop_of_length_le (show l1.length ≤ i by omega)]; rfl
theorem compare_any (A0 A1 : Option Addr) (c0 c1 : Nat) (l0 l1 : List Int) (w : World) (hr0 : Kd.C (Kd.int .i64) w A0 l0.length l0) (hc0 : l0.length ≤ c0) (hr1 : Kd.C (Kd.int .i64) w A1 l1.length l1) (hc1 : l1.length ≤ c1) (h0 : l0.length ≤ 1000) :
    Calls Try.prog 41 #[.slice A0 l0.length c0, .slice A1 l1.length c1] w fun e w' => e = .returned (.int .i64 (cmpL l0 l1)) ∧ ∃ q, w' = w.drewN q :=
  (slices_Compare_int_int.calls (l0.length + 1) A0 c0 l0 A1 c1 l1 _ w hr0 hc0 hr1 hc1 (compare_l0 l0 l1 h0 l0.length 0 _ (by omega) (by omega) (by omega))).mono fun e w' h => ⟨h.1, h.2.out⟩

theorem shl_nat : ∀ i < 10, wrap64 (shl .i64 1 ((i : Nat) : Int) - 1) = ((2 ^ i - 1 : Nat) : Int) := by decide +kernel
theorem everywhere_any (A0 A1 : Option Addr) (c0 c1 : Nat) (t : List Int) (acts : List S39) (w : World) (hr0 : Kd.C (Kd.int .i64) w A0 t.length t) (hc0 : t.length ≤ c0) (hr1 : Kd.C k39 w A1 acts.length acts) (hc1 : acts.length ≤ c1) (h9 : t.length ≤ 9) :
    Calls Try.prog 39 #[.agg #[.slice A0 t.length c0, .slice A1 acts.length c1]] w fun e w' => e = .returned (.int .i64 ((2 ^ t.length - 1 : Nat) : Int)) ∧ Below w.heap.size w w' :=
  flat_rules_everywhere.calls A0 c0 t A1 c1 acts _ w hr0 hc0 hr1 hc1 (by unfold flat_rules_everywhere.f; rw [shl_nat _ (by omega)])

/-! The sets that some settings keep. -/
def clr (m i : Nat) : Nat := m &&& (511 ^^^ 2 ^ i)
theorem bit511 (j : Nat) : (511 : Nat).testBit j = decide (j < 9) := by
  rw [show (511 : Nat) = 2 ^ 9 - 1 from rfl, Nat.testBit_two_pow_sub_one]
theorem clr_tb (m i j : Nat) : (clr m i).testBit j = (m.testBit j && (decide (j < 9) ^^ decide (i = j))) := by
  rw [clr, Nat.testBit_and, Nat.testBit_xor, bit511, Nat.testBit_two_pow]
theorem clr_le (m i : Nat) : clr m i ≤ m := Nat.and_le_left
theorem clr_or {m i : Nat} (hm : m < 512) (hi : i < 9) (hb : m.testBit i = false) : clr (m ||| 2 ^ i) i = m := by
  apply Nat.eq_of_testBit_eq
  intro j
  rw [clr_tb, Nat.testBit_or, Nat.testBit_two_pow]
  by_cases h : i = j
  · subst h; simp [hb, hi]
  · by_cases h9 : j < 9
    · simp [h, h9]
    · have : m.testBit j = false := Nat.testBit_lt_two_pow (Nat.lt_of_lt_of_le hm (by rw [show (512 : Nat) = 2 ^ 9 from rfl]; exact Nat.pow_le_pow_right (by decide) (by omega)))
      simp [this, h]
def Sub (m k : Nat) : Prop := ∀ j, m.testBit j = true → k.testBit j = true
theorem Sub.clr {m k : Nat} (h : Sub m k) (i : Nat) : Sub (clr m i) k := fun j hj => by
  rw [clr_tb, Bool.and_eq_true] at hj
  exact h j hj.1
theorem Sub.le {m k : Nat} (h : Sub m k) : m ≤ k := by
  have : m &&& k = m := by
    apply Nat.eq_of_testBit_eq
    intro j
    rw [Nat.testBit_and]
    cases hj : m.testBit j with
    | true => rw [h j hj]; rfl
    | false => rfl
  rw [← this]; exact Nat.and_le_right
/-- Sets above s are settled. Kn: the sets that are kept exactly. -/
structure Down (Kn : Nat → Prop) (n : Nat) (T : Nat → Bool) (s : Nat) : Prop where
  i1 : ∀ m, T m = true → ∃ k, Kn k ∧ Sub m k
  i2 : ∀ k, Kn k → T k = true
  i3 : ∀ m, s < m → m < 2 ^ n → T m = true → ∀ i < n, T (clr m i) = true
theorem Down.store {Kn : Nat → Prop} {n : Nat} {T : Nat → Bool} {s : Nat} (h : Down Kn n T s) (i : Nat) : Down Kn n (fun j => if j = clr s i then (T (clr s i) || T s) else T j) s := by
  have up : ∀ m, T m = true → (if m = clr s i then (T (clr s i) || T s) else T m) = true := fun m hm => by
    split
    · rename_i e; subst e; simp [hm]
    · exact hm
  refine ⟨fun m hm => ?_, fun k hk => up k (h.i2 k hk), fun m hs hn hm j hj => up _ (h.i3 m hs hn ?_ j hj)⟩
  · split at hm
    · rename_i e
      subst e
      rcases (Bool.or_eq_true_iff.1 hm) with hm | hm
      · exact h.i1 _ hm
      · obtain ⟨k, hk, hsub⟩ := h.i1 _ hm
        exact ⟨k, hk, hsub.clr i⟩
    · exact h.i1 m hm
  · have : m ≠ clr s i := by have := clr_le s i; omega
    rw [if_neg this] at hm
    exact hm
theorem Down.next {Kn : Nat → Prop} {n : Nat} {T : Nat → Bool} {s : Nat} (h : Down Kn n T (s + 1)) (hs : T (s + 1) = true → ∀ i < n, T (clr (s + 1) i) = true) : Down Kn n T s :=
  ⟨h.i1, h.i2, fun m hm hn ht i hi => by
    by_cases e : m = s + 1
    · subst e; exact hs ht i hi
    · exact h.i3 m (by omega) hn ht i hi⟩
theorem Down.all {Kn : Nat → Prop} {n : Nat} {T : Nat → Bool} (h : Down Kn n T 0) (hn : n ≤ 9) (hk : ∀ k, Kn k → k < 2 ^ n) : ∀ m, T m = true ↔ ∃ k, Kn k ∧ Sub m k := by
  intro m
  refine ⟨h.i1 m, ?_⟩
  rintro ⟨k, hkn, hsub⟩
  have hk2 := hk k hkn
  have h512 : 2 ^ n ≤ 512 := by rw [show (512 : Nat) = 2 ^ 9 from rfl]; exact Nat.pow_le_pow_right (by decide) hn
  have : ∀ (d m : Nat), k - m = d → Sub m k → T m = true := by
    intro d
    induction d using Nat.strongRecOn with
    | _ d ih =>
      intro m hd hsub
      by_cases e : m = k
      · subst e; exact h.i2 _ hkn
      · have hle := hsub.le
        obtain ⟨i, hi⟩ : ∃ i, k.testBit i ≠ m.testBit i := by
          apply Classical.byContradiction
          intro hc
          apply e
          apply Nat.eq_of_testBit_eq
          intro j
          apply Classical.byContradiction
          intro hj
          exact hc ⟨j, fun e => hj e.symm⟩
        have hmi : m.testBit i = false := by
          cases hb : m.testBit i with
          | false => rfl
          | true => rw [hsub i hb, hb] at hi; exact absurd rfl hi
        have hki : k.testBit i = true := by
          cases hb : k.testBit i with
          | true => rfl
          | false => rw [hb, hmi] at hi; exact absurd rfl hi
        have hin : i < n := by
          apply Classical.byContradiction
          intro hc
          rw [Nat.testBit_lt_two_pow (Nat.lt_of_lt_of_le hk2 (Nat.pow_le_pow_right (by decide) (by omega)))] at hki
          cases hki
        have hs2 : Sub (m ||| 2 ^ i) k := fun j hj => by
          rw [Nat.testBit_or, Bool.or_eq_true, Nat.testBit_two_pow] at hj
          rcases hj with hj | hj
          · exact hsub j hj
          · have : i = j := by simpa using hj
            subst this; exact hki
        have hgt : m < m ||| 2 ^ i := by
          have h1 : m ≤ m ||| 2 ^ i := Nat.left_le_or
          have h2 : m ≠ m ||| 2 ^ i := fun e => by
            have : (m ||| 2 ^ i).testBit i = true := by rw [Nat.testBit_or, Nat.testBit_two_pow]; simp
            rw [← e, hmi] at this; cases this
          omega
        have hle2 := hs2.le
        have ht := ih (k - (m ||| 2 ^ i)) (by omega) _ rfl hs2
        have := h.i3 _ (by omega) (by omega) ht i hin
        rwa [clr_or (by omega) (by omega) hmi] at this
  exact this _ m rfl hsub

/-- The best of the sets 1 to k that aren't marked. -/
def bestC (T : Nat → Bool) : Nat → Option (List Int)
  | 0 => none
  | k + 1 => if T (k + 1) then bestC T k else match bestC T k with
    | none => some (posN (k + 1))
    | some b => if (posN (k + 1)).length < b.length ∨ ((posN (k + 1)).length = b.length ∧ cmpL (posN (k + 1)) b < 0) then some (posN (k + 1)) else some b
/-- Can some settings keep the tolerance at all positions of the set? -/
def canB (t : List Int) (acts : List S39) (tol : Int) (m : Nat) : Bool := (sets acts).any fun x => (m &&& keptN t acts tol x) == m
theorem canB_iff (t : List Int) (acts : List S39) (tol : Int) (m : Nat) : canB t acts tol m = true ↔ ∃ k, (∃ x ∈ sets acts, keptN t acts tol x = k) ∧ Sub m k := by
  unfold canB
  rw [List.any_eq_true]
  constructor
  · rintro ⟨x, hx, h⟩
    refine ⟨_, ⟨x, hx, rfl⟩, fun j hj => ?_⟩
    have h : m &&& keptN t acts tol x = m := by simpa using h
    rw [← h, Nat.testBit_and, Bool.and_eq_true] at hj
    exact hj.2
  · rintro ⟨k, ⟨x, hx, rfl⟩, hs⟩
    refine ⟨x, hx, ?_⟩
    rw [beq_iff_eq]
    apply Nat.eq_of_testBit_eq
    intro j
    rw [Nat.testBit_and]
    cases hj : m.testBit j with
    | true => rw [hs j hj]; rfl
    | false => rfl
theorem bestC_congr (T U : Nat → Bool) : ∀ k, (∀ m, 1 ≤ m → m ≤ k → T m = U m) → bestC T k = bestC U k
  | 0, _ => rfl
  | k + 1, h => by
    have := bestC_congr T U k (fun m h1 h2 => h m h1 (by omega))
    simp only [bestC]
    rw [h (k + 1) (by omega) (by omega), this]
def contraL (t : List Int) (acts : List S39) (tol : Int) : Option (List Int) := bestC (canB t acts tol) (2 ^ t.length - 1)
end Go.Proofs.Ytbijfhmpafjceaa.E
