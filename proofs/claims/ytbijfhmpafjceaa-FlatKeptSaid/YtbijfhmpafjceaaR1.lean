import Derived.Test.YtbijfhmpafjceaaWWords
import Derived.ChangeSame
import Derived.DataReads
import Derived.Deep.Slices
set_option linter.unusedSimpArgs false
set_option linter.unusedVariables false
namespace Go.Proofs.Ytbijfhmpafjceaa.E
open Go.RowKit Go.ChangeShapes Go.WideShapes Go.Proofs.YtbijfhmpafjceaaW.PrintWords

/-! Arguments, laid open. -/
/-- What can be read at type t is told by the kind K, and G holds of it. -/
def Opens {α : Type} (P : Program) (t : TypeId) (K : Kd α) (G : α → Prop) : Prop :=
  ∀ (H : Type) (enc : TypeId × Value → H) (w : World) (base : Nat) (spare : Nat → Bool) (held : Bool) (fuel : Nat) (cs : List Value) (x : DataW H × List MemPlace),
    DataW.trod enc P w base spare held fuel t cs = some x → ∃ a, K.K w a cs ∧ G a
theorem opens_int {P : Program} {t : TypeId} {k : IntKind} (ht : P.underlying t = some (.int k)) : Opens P t (Kd.int k) (fun n => (Lit.int k n).wf = true) := by
  intro H enc w base spare held fuel cs x h
  obtain ⟨n, rfl, _, hw⟩ := DataW.trod_int ht h
  exact ⟨n, rfl, hw⟩
theorem opens_string {P : Program} {t : TypeId} (ht : P.underlying t = some .string) : Opens P t Kd.string (fun s => s.size ≤ maxLen) := by
  intro H enc w base spare held fuel cs x h
  obtain ⟨s, rfl, _, hw⟩ := DataW.trod_string ht h
  exact ⟨s, rfl, hw⟩
theorem list_of {α : Type} (Q : Nat → α → Prop) : ∀ n : Nat, (∀ i, i < n → ∃ y, Q i y) → ∃ ys : List α, ys.length = n ∧ ∀ (i : Nat) (y : α), ys[i]? = some y → Q i y
  | 0, _ => ⟨[], rfl, fun i y h => by simp at h⟩
  | n + 1, h => by
    obtain ⟨ys, hl, hq⟩ := list_of Q n (fun i hi => h i (by omega))
    obtain ⟨y, hy⟩ := h n (by omega)
    refine ⟨ys ++ [y], by simp [hl], fun i z hz => ?_⟩
    by_cases hi : i < n
    · rw [List.getElem?_append_left (by omega)] at hz
      exact hq i z hz
    · rw [List.getElem?_append_right (by omega)] at hz
      have hil := (List.getElem?_eq_some_iff.1 hz).1
      have e : i = n := by simp at hil; omega
      subst e
      rw [hl] at hz
      have : y = z := by simpa using hz
      subst this
      exact hy
theorem opens_slice {α : Type} {P : Program} {t e : TypeId} {K : Kd α} {G : α → Prop} (ht : P.underlying t = some (.slice e)) (hC : P.cellsOf e = K.sz) (he : Opens P e K G) : Opens P t (Kd.slice e K) (fun xs => xs.length ≤ maxLen ∧ ∀ a ∈ xs, G a) := by
  intro H enc w base spare held fuel cs x h
  rcases DataW.trod_slice ht h with ⟨rfl, _⟩ | ⟨a, len, cap, elems, rest, n, _, rfl, _, _, hl, hm, hlen, hel, _, _⟩
  · exact ⟨[], ⟨none, 0, rfl, Nat.le_refl _, rfl, Nat.zero_le _, fun h => absurd h (Nat.lt_irrefl 0)⟩, Nat.zero_le _, by simp⟩
  · have hex : ∀ i, i < len → ∃ y, (∃ cs', w.cells? base (a.add (i * K.sz)) K.sz = some cs' ∧ K.K w y cs') ∧ G y := by
      intro i hi
      have h1 := hel i hi
      rw [hC, List.getElem?_eq_getElem (by omega)] at h1
      obtain ⟨cs', hc, ht'⟩ := Option.bind_eq_some_iff.1 h1
      obtain ⟨y, hy, hg⟩ := he H enc w base spare held n cs' _ ht'
      exact ⟨y, ⟨cs', hc, hy⟩, hg⟩
    obtain ⟨ys, hyl, hq⟩ := list_of _ len hex
    have hml : len ≤ maxLen := Nat.le_trans hl hm
    refine ⟨ys, ⟨some a, cap, by rw [hyl], by omega, rfl, by rw [hyl]; exact hml, fun _ => ⟨a, rfl, fun j p hp => ?_⟩⟩, by omega, fun y hy => ?_⟩
    · obtain ⟨⟨cs', hc, hk⟩, _⟩ := hq j p hp
      obtain ⟨_, hcl, hat⟩ := World.cells?_some hc
      refine ⟨cs', hcl, hk, fun i u hu => ?_⟩
      have hi : i < cs'.length := (List.getElem?_eq_some_iff.1 hu).1
      have := hat i (by omega)
      rw [hu, Go.Deep.add_add] at this
      exact this
    · obtain ⟨j, hj⟩ := List.getElem?_of_mem hy
      exact (hq j y hj).2
theorem opens_pair {α β : Type} {P : Program} {t : TypeId} {f0 f1 : Field} {K0 : Kd α} {K1 : Kd β} {G0 : α → Prop} {G1 : β → Prop} (ht : P.underlying t = some (.struct #[f0, f1])) (o0 : f0.offset = 0) (o1 : f1.offset = K0.sz)
    (c0 : P.cellsOf f0.type = K0.sz) (c1 : P.cellsOf f1.type = K1.sz) (hc : P.cellsOf t = K0.sz + K1.sz) (h0 : Opens P f0.type K0 G0) (h1 : Opens P f1.type K1 G1) : Opens P t (Kd.pair K0 K1) (fun x => G0 x.1 ∧ G1 x.2) := by
  intro H enc w base spare held fuel cs x h
  obtain ⟨y0, y1, n, _, hl, e0, e1⟩ := trod_struct2 ht h
  rw [o0, c0, List.drop_zero] at e0
  rw [o1, c1] at e1
  obtain ⟨a, ha, ga⟩ := h0 _ _ _ _ _ _ _ _ _ e0
  obtain ⟨b, hb, gb⟩ := h1 _ _ _ _ _ _ _ _ _ e1
  refine ⟨(a, b), ⟨_, _, ?_, ha, hb⟩, ga, gb⟩
  rw [List.take_of_length_le (l := cs.drop K0.sz) (by rw [List.length_drop]; omega), List.take_append_drop]
theorem opens_iso {α β : Type} {P : Program} {t : TypeId} {K : Kd α} {G : α → Prop} (f : β → α) (g : α → β) (hfg : ∀ a, f (g a) = a) (h : Opens P t K G) : Opens P t (Kd.iso K f) (fun b => G (f b)) := by
  intro H enc w base spare held fuel cs x hx
  obtain ⟨a, ha, ga⟩ := h _ _ _ _ _ _ _ _ _ hx
  exact ⟨g a, by show K.K w (f (g a)) cs; rw [hfg]; exact ha, by show G (f (g a)); rw [hfg]; exact ga⟩
theorem Opens.imp {α : Type} {P : Program} {t : TypeId} {K : Kd α} {G G' : α → Prop} (h : Opens P t K G) (hg : ∀ a, G a → G' a) : Opens P t K G' := fun H enc w base spare held fuel cs x hx => by
  obtain ⟨a, ha, ga⟩ := h H enc w base spare held fuel cs x hx
  exact ⟨a, ha, hg a ga⟩
end Go.Proofs.Ytbijfhmpafjceaa.E
