import Derived.Test.YtbijfhmpafjceaaE5
set_option linter.unusedSimpArgs false
set_option linter.unusedVariables false
namespace Go.Proofs.Ytbijfhmpafjceaa.E
open Go.RowKit Go.Proofs.YtbijfhmpafjceaaW.PrintWords Go.Proofs.Ytbijfhmpafjceaa.PFlatKept

/-! Settings, lexicographically ascending. -/
def los (acts : List S39) : List Int := acts.map fun a => a.f0.f0
def his (acts : List S39) : List Int := acts.map fun a => a.f0.f1
def succ : List S39 → List Int → Option (List Int)
  | a :: ar, x :: xs => match succ ar xs with
    | some ys => some (x :: ys)
    | none => if x = a.f0.f1 then none else some ((x + 1) :: los ar)
  | _, _ => none
def upFrom (lo : Int) : Nat → List Int
  | 0 => []
  | n + 1 => lo :: upFrom (lo + 1) n
def sets : List S39 → List (List Int)
  | [] => [[]]
  | a :: ar => (upFrom a.f0.f0 (a.f0.f1 - a.f0.f0 + 1).toNat).flatMap fun x => (sets ar).map (x :: ·)

/-- f leads from each item to the next, and from the last to e. -/
def Link {α : Type} (f : α → Option α) : List α → Option α → Prop
  | [], _ => True
  | x :: l, e => f x = l.head?.or e ∧ Link f l e

theorem Link.append {α : Type} {f : α → Option α} : ∀ {l1 l2 : List α} {e : Option α}, Link f l1 (l2.head?.or e) → Link f l2 e → Link f (l1 ++ l2) e
  | [], _, _, _, h2 => h2
  | x :: l1, l2, e, h1, h2 => ⟨by show f x = (l1 ++ l2).head?.or e; rw [h1.1, List.head?_append, Option.or_assoc], Link.append h1.2 h2⟩
theorem Link.map {α β : Type} {f : α → Option α} {g : β → Option β} {h : α → β} {e : Option β} (hg : ∀ y, g (h y) = ((f y).map h).or e) : ∀ {l : List α}, Link f l none → Link g (l.map h) e
  | [], _ => trivial
  | x :: l, hl => ⟨by rw [hg, hl.1, Option.or_none, List.head?_map], Link.map hg hl.2⟩
theorem Link.at {α : Type} {f : α → Option α} : ∀ {l : List α}, Link f l none → ∀ i x, l[i]? = some x → f x = l[i + 1]?
  | [], _, i, x, h => by simp at h
  | y :: l, hl, 0, x, h => by
    have : y = x := by simpa using h
    subst this
    rw [hl.1, Option.or_none, List.head?_eq_getElem?]; rfl
  | y :: l, hl, i + 1, x, h => by
    have := Link.at hl.2 i x (by simpa using h)
    simpa using this

theorem sets_ok : ∀ acts : List S39, (∀ a ∈ acts, a.f0.f0 ≤ a.f0.f1) → Link (succ acts) (sets acts) none ∧ (sets acts).head? = some (los acts)
  | [], _ => ⟨⟨rfl, trivial⟩, rfl⟩
  | a :: ar, h => by
    obtain ⟨i1, i2⟩ := sets_ok ar fun b hb => h b (List.mem_cons_of_mem _ hb)
    have h0 := h a List.mem_cons_self
    have hd : ∀ x, ((sets ar).map (x :: ·)).head? = some (x :: los ar) := fun x => by rw [List.head?_map, i2]; rfl
    have key : ∀ (n : Nat) (lo : Int), lo + n = a.f0.f1 + 1 → Link (succ (a :: ar)) ((upFrom lo n).flatMap fun x => (sets ar).map (x :: ·)) none := by
      intro n
      induction n with
      | zero => intro lo _; trivial
      | succ n ih =>
        intro lo hlo
        rw [upFrom, List.flatMap_cons]
        refine Link.append (Link.map (f := succ ar) (fun y => ?_) i1) (ih (lo + 1) (by omega))
        rw [Option.or_none]
        simp only [succ]
        cases hy : succ ar y with
        | some z => rfl
        | none =>
          cases n with
          | zero => rw [if_pos (by omega)]; rfl
          | succ n => rw [if_neg (by omega), upFrom, List.flatMap_cons, List.head?_append, hd]; rfl
    refine ⟨key _ _ (by omega), ?_⟩
    obtain ⟨n, hn⟩ : ∃ n, (a.f0.f1 - a.f0.f0 + 1).toNat = n + 1 := ⟨(a.f0.f1 - a.f0.f0).toNat, by omega⟩
    rw [sets, hn, upFrom, List.flatMap_cons, List.head?_append, hd]
    rfl

theorem mem_upFrom : ∀ (n : Nat) (lo x : Int), x ∈ upFrom lo n ↔ lo ≤ x ∧ x < lo + n
  | 0, lo, x => by simp only [upFrom, List.not_mem_nil, false_iff]; omega
  | n + 1, lo, x => by rw [upFrom, List.mem_cons, mem_upFrom n]; omega

/-- A setting for each actuator, in its range. -/
def Fits : List S39 → List Int → Prop
  | [], [] => True
  | a :: ar, x :: xs => (a.f0.f0 ≤ x ∧ x ≤ a.f0.f1) ∧ Fits ar xs
  | _, _ => False

theorem mem_sets : ∀ (acts : List S39) (xs : List Int), xs ∈ sets acts ↔ Fits acts xs
  | [], [] => by simp [sets, Fits]
  | [], x :: xs => by simp [sets, Fits]
  | a :: ar, [] => by simp [sets, Fits]
  | a :: ar, x :: xs => by
    have := mem_sets ar xs
    simp only [sets, Fits, List.mem_flatMap, List.mem_map, mem_upFrom]
    constructor
    · rintro ⟨y, hy, ys, hys, e⟩
      injection e with e1 e2
      subst e1 e2
      exact ⟨by omega, this.1 hys⟩
    · rintro ⟨h1, h2⟩
      exact ⟨x, by omega, xs, this.2 h2, rfl⟩

theorem Fits.length : ∀ {acts : List S39} {xs : List Int}, Fits acts xs → xs.length = acts.length
  | [], [], _ => rfl
  | [], _ :: _, h => h.elim
  | _ :: _, [], h => h.elim
  | a :: ar, x :: xs, h => by simp [Fits.length h.2]

theorem Fits.get : ∀ {acts : List S39} {xs : List Int}, Fits acts xs → ∀ (j : Nat) (a : S39) (x : Int), acts[j]? = some a → xs[j]? = some x → a.f0.f0 ≤ x ∧ x ≤ a.f0.f1
  | [], [], _, j, a, x, h, _ => by simp at h
  | [], _ :: _, h, _, _, _, _, _ => h.elim
  | _ :: _, [], h, _, _, _, _, _ => h.elim
  | b :: ar, y :: xs, h, 0, a, x, h1, h2 => by
    have e1 : b = a := by simpa using h1
    have e2 : y = x := by simpa using h2
    subst e1 e2
    exact h.1
  | b :: ar, y :: xs, h, j + 1, a, x, h1, h2 => Fits.get h.2 j a x (by simpa using h1) (by simpa using h2)

theorem succ_none : ∀ (acts : List S39), succ acts (his acts) = none
  | [] => rfl
  | a :: ar => by
    have := succ_none ar
    simp only [his, List.map_cons, succ]
    unfold his at this
    rw [this]
    simp

theorem succ_some : ∀ (acts : List S39) (xs : List Int) (i : Nat) (a : S39) (x : Int), xs.length = acts.length → acts[i]? = some a → xs[i]? = some x → xs.drop (i + 1) = (his acts).drop (i + 1) → x ≠ a.f0.f1 →
    succ acts xs = some (xs.take i ++ (x + 1) :: (los acts).drop (i + 1))
  | [], _, i, a, x, _, h, _, _, _ => by simp at h
  | b :: ar, [], i, a, x, h, _, _, _, _ => by simp at h
  | b :: ar, y :: ys, 0, a, x, hl, h1, h2, h3, h4 => by
    have e1 : b = a := by simpa using h1
    have e2 : y = x := by simpa using h2
    subst e1 e2
    have e3 : ys = his ar := by simpa [his] using h3
    simp only [succ]
    rw [e3, succ_none]
    simp [h4, los]
  | b :: ar, y :: ys, i + 1, a, x, hl, h1, h2, h3, h4 => by
    have := succ_some ar ys i a x (by simpa using hl) (by simpa using h1) (by simpa using h2) (by simpa [his] using h3) h4
    simp only [succ]
    rw [this]
    simp [los]

/-- How many more there are. -/
def more (acts : List S39) : Nat → List Int → Nat
  | 0, _ => 0
  | n + 1, xs => match succ acts xs with
    | some ys => more acts n ys + 1
    | none => 0
theorem more_at (acts : List S39) (S : List (List Int)) (h : ∀ (i : Nat) (x : List Int), S[i]? = some x → succ acts x = S[i + 1]?) : ∀ (n i : Nat) (x : List Int), S[i]? = some x → S.length - i ≤ n → more acts n x = S.length - 1 - i
  | 0, i, x, hx, hn => by
    have : i < S.length := (List.getElem?_eq_some_iff.1 hx).1
    omega
  | n + 1, i, x, hx, hn => by
    have hi : i < S.length := (List.getElem?_eq_some_iff.1 hx).1
    have := h i x hx
    simp only [more]
    rw [this]
    cases hy : S[i + 1]? with
    | none => have := List.getElem?_eq_none_iff.1 hy; simp only; omega
    | some y =>
      have hi2 : i + 1 < S.length := (List.getElem?_eq_some_iff.1 hy).1
      simp only
      rw [more_at acts S h n (i + 1) y hy (by omega)]
      omega
end Go.Proofs.Ytbijfhmpafjceaa.E
