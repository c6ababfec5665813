-- Written by a program of this session (wip/tools/mkprint.py), out of the translation and of contracts of this session.
import Derived.Test.YtbijfhmpafjceaaPFlatKeptx0
import Derived.Test.YtbijfhmpafjceaaK1
import Derived.Test.YtbijfhmpafjceaaK2
import Derived.Test.YtbijfhmpafjceaaK3
import Derived.Test.YtbijfhmpafjceaaK4
import Derived.Test.YtbijfhmpafjceaaK5
import Derived.Test.YtbijfhmpafjceaaK6
namespace Go.Proofs.Ytbijfhmpafjceaa.PFlatKept
open Go.RowKit Go.Proofs.YtbijfhmpafjceaaW.PrintWords Go.Proofs.YtbijfhmpafjceaaW.PrintLast Go.Proofs.YtbijfhmpafjceaaW.PrintMore
attribute [local go_sem] Instr.field asAgg max2_int min2_int max_two min_two max_three min_three max_four min_four   -- for this text's walks alone
set_option linter.unusedVariables false
set_option linter.unusedSimpArgs false

/-! ### cobblelaw07_FlatKept: function 3 -/
mutual
def cobblelaw07_FlatKept.j0 : Nat → Int → Bool → List Int → List (S39) → Option (Bool)
  | 0, _, _, _, _ => none
  | k + 1, x1, x33, x225000, x225001 => if x33 = true then (some true) else ((cobbleref07_CopyRules.f k x225000 x225001).bind fun bt229 => ((flat_Best.f bt229.1 bt229.2).bind fun bt235 => ((cobbleref07_CopyRules.f k x225000 x225001).bind fun bt240 => ((flat_FirstWithin.f bt240.1 bt240.2 x1).bind fun bt246 => ((cobbleref07_CopyRules.f k x225000 x225001).bind fun bt250 => ((flat_ContradictingIn.f bt250.1 bt250.2 x1).bind fun bt256 => (if bt235.2.2 = 0 then (if ((bt246.2 == 0) != (decide (x1 ≥ bt235.2.1))) = true then (cobblelaw07_FlatKept.j1 k x1 bt246.2 bt256.1 bt256.2 true x225000 x225001) else (cobblelaw07_FlatKept.j1 k x1 bt246.2 bt256.1 bt256.2 ((bt256.2 == 12) != (bt246.2 == 0)) x225000 x225001)) else (cobblelaw07_FlatKept.j1 k x1 bt246.2 bt256.1 bt256.2 true x225000 x225001))))))))
def cobblelaw07_FlatKept.j1 : Nat → Int → Int → List Int → Int → Bool → List Int → List (S39) → Option (Bool)
  | 0, _, _, _, _, _, _, _ => none
  | k + 1, x1, x9, x10, x11, x71, x225000, x225001 => if x71 = true then (some false) else (if x9 = 0 then (some ((x10.length : Int) == 0)) else (if x9 = 12 then (if x11 = 0 then ((cobblebase_Within.f (x10.length : Int) 1 (x225000.length : Int)).bind fun t260 => (cobblelaw07_FlatKept.j2 k x1 x10 (!t260) x225000 x225001)) else (cobblelaw07_FlatKept.j2 k x1 x10 true x225000 x225001)) else (cobblelaw07_FlatKept.j2 k x1 x10 true x225000 x225001)))
def cobblelaw07_FlatKept.j2 : Nat → Int → List Int → Bool → List Int → List (S39) → Option (Bool)
  | 0, _, _, _, _, _ => none
  | k + 1, x1, x10, x91, x225000, x225001 => if x91 = true then (some false) else (cobblelaw07_FlatKept.l0 k x1 x10 (-1) x225000 x225001)
def cobblelaw07_FlatKept.l0 : Nat → Int → List Int → Int → List Int → List (S39) → Option (Bool)
  | 0, _, _, _, _, _ => none
  | k + 1, x1, x10, x12, x225000, x225001 => if x12 < (x10.length : Int) then ((cobbleref07_CopyRules.f k x225000 x225001).bind fun bt261 => (cobblelaw07_FlatKept.l1 k x1 x10 x12 0 x225000 x225001 bt261.2)) else (some true)
def cobblelaw07_FlatKept.l1 : Nat → Int → List Int → Int → Int → List Int → List (S39) → List (S39) → Option (Bool)
  | 0, _, _, _, _, _, _, _ => none
  | k + 1, x1, x10, x12, x14, x225000, x225001, x268001 => if x14 < (x268001.length : Int) then (if 0 ≤ x14 then (cobblelaw07_FlatKept.l1 k x1 x10 x12 (wrap64 (x14 + 1)) x225000 x225001 (x268001.set (x14 : Int).toNat (⟨(⟨(rd_T39 x268001 x14).f0.f0, (rd_T39 x268001 x14).f0.f1⟩ : S37), ([] : List Int)⟩ : S39))) else (none)) else (cobblelaw07_FlatKept.l2 k x1 x10 x12 0 x225000 x225001 ([] : List Int) x268001)
def cobblelaw07_FlatKept.l2 : Nat → Int → List Int → Int → Int → List Int → List (S39) → List Int → List (S39) → Option (Bool)
  | 0, _, _, _, _, _, _, _, _ => none
  | k + 1, x1, x10, x12, x15, x225000, x225001, x268000, x268001 => if x15 < (x10.length : Int) then (if 0 ≤ x15 then ((cobblebase_Within.f (rd x10 x15) 0 (wrap64 ((x225000.length : Int) - 1))).bind fun t270 => (if t270 = true then (if x15 > 0 then (if 0 ≤ (wrap64 (x15 - 1)) then (if (wrap64 (x15 - 1)) < (x10.length : Int) then (cobblelaw07_FlatKept.j6 k x1 x10 x12 x15 (decide ((rd x10 x15) ≤ (rd x10 (wrap64 (x15 - 1))))) x225000 x225001 x268000 x268001) else (none)) else (none)) else (cobblelaw07_FlatKept.j6 k x1 x10 x12 x15 false x225000 x225001 x268000 x268001)) else (cobblelaw07_FlatKept.j6 k x1 x10 x12 x15 true x225000 x225001 x268000 x268001))) else (none)) else (if (x268000.length : Int) = 0 then (cobblelaw07_FlatKept.l0 k x1 x10 (wrap64 (x12 + 1)) x225000 x225001) else ((flat_FirstWithin.f x268000 x268001 x1).bind fun bt286 => (if ((bt286.2 == 0) != (decide (x12 ≥ 0))) = true then (some false) else (cobblelaw07_FlatKept.l0 k x1 x10 (wrap64 (x12 + 1)) x225000 x225001))))
def cobblelaw07_FlatKept.j6 : Nat → Int → List Int → Int → Int → Bool → List Int → List (S39) → List Int → List (S39) → Option (Bool)
  | 0, _, _, _, _, _, _, _, _, _ => none
  | k + 1, x1, x10, x12, x15, x145, x225000, x225001, x268000, x268001 => if x145 = true then (some false) else (if x15 = x12 then (cobblelaw07_FlatKept.l2 k x1 x10 x12 (wrap64 (x15 + 1)) x225000 x225001 x268000 x268001) else (if 0 ≤ x15 then (if x15 < (x10.length : Int) then (if 0 ≤ (rd x10 x15) then (if (rd x10 x15) < (x225000.length : Int) then (if x268000.length < 17592186044416 then (cobblelaw07_FlatKept.l3 k x1 x10 x12 x15 0 x225000 x225001 (x268000 ++ [rd x225000 (rd x10 x15)]) x268001) else (none)) else (none)) else (none)) else (none)) else (none)))
def cobblelaw07_FlatKept.l3 : Nat → Int → List Int → Int → Int → Int → List Int → List (S39) → List Int → List (S39) → Option (Bool)
  | 0, _, _, _, _, _, _, _, _, _ => none
  | k + 1, x1, x10, x12, x15, x16, x225000, x225001, x268000, x268001 => if x16 < (x268001.length : Int) then (if 0 ≤ x16 then (if x16 < (x225001.length : Int) then (if 0 ≤ x15 then (if x15 < (x10.length : Int) then (if 0 ≤ (rd x10 x15) then (if (rd x10 x15) < (((rd_T39 x225001 x16).f1).length : Int) then (if ((rd_T39 x268001 x16).f1).length < 17592186044416 then (cobblelaw07_FlatKept.l3 k x1 x10 x12 x15 (wrap64 (x16 + 1)) x225000 x225001 x268000 (x268001.set (x16 : Int).toNat (⟨(⟨(rd_T39 x268001 x16).f0.f0, (rd_T39 x268001 x16).f0.f1⟩ : S37), (((rd_T39 x268001 x16).f1) ++ [rd ((rd_T39 x225001 x16).f1) (rd x10 x15)])⟩ : S39))) else (none)) else (none)) else (none)) else (none)) else (none)) else (none)) else (none)) else (cobblelaw07_FlatKept.l2 k x1 x10 x12 (wrap64 (x15 + 1)) x225000 x225001 x268000 x268001)
end
def cobblelaw07_FlatKept.f (k : Nat) (l0_0 : List Int) (l0_1 : List (S39)) (a1 : Int) : Option (Bool) := (cobblelaw07_awake.f).bind fun t225 => (if t225 = true then ((cobblelaw07_Few.f k l0_0 l0_1).bind fun t226 => (if t226 = true then ((cobbleref07_RulesErr.f k l0_0 l0_1).bind fun t227 => (if t227 = 0 then ((cobblebase_Within.f a1 0 100000).bind fun t228 => (cobblelaw07_FlatKept.j0 k a1 (!t228) l0_0 l0_1)) else (cobblelaw07_FlatKept.j0 k a1 true l0_0 l0_1))) else (cobblelaw07_FlatKept.j0 k a1 true l0_0 l0_1))) else (some false))
theorem cobblelaw07_FlatKept.mono_l : ∀ k, (∀ y0 y1 y2 y3, LeO (cobblelaw07_FlatKept.j0 k y0 y1 y2 y3) (cobblelaw07_FlatKept.j0 (k + 1) y0 y1 y2 y3)) ∧ (∀ y0 y1 y2 y3 y4 y5 y6, LeO (cobblelaw07_FlatKept.j1 k y0 y1 y2 y3 y4 y5 y6) (cobblelaw07_FlatKept.j1 (k + 1) y0 y1 y2 y3 y4 y5 y6)) ∧ (∀ y0 y1 y2 y3 y4, LeO (cobblelaw07_FlatKept.j2 k y0 y1 y2 y3 y4) (cobblelaw07_FlatKept.j2 (k + 1) y0 y1 y2 y3 y4)) ∧ (∀ y0 y1 y2 y3 y4, LeO (cobblelaw07_FlatKept.l0 k y0 y1 y2 y3 y4) (cobblelaw07_FlatKept.l0 (k + 1) y0 y1 y2 y3 y4)) ∧ (∀ y0 y1 y2 y3 y4 y5 y6, LeO (cobblelaw07_FlatKept.l1 k y0 y1 y2 y3 y4 y5 y6) (cobblelaw07_FlatKept.l1 (k + 1) y0 y1 y2 y3 y4 y5 y6)) ∧ (∀ y0 y1 y2 y3 y4 y5 y6 y7, LeO (cobblelaw07_FlatKept.l2 k y0 y1 y2 y3 y4 y5 y6 y7) (cobblelaw07_FlatKept.l2 (k + 1) y0 y1 y2 y3 y4 y5 y6 y7)) ∧ (∀ y0 y1 y2 y3 y4 y5 y6 y7 y8, LeO (cobblelaw07_FlatKept.j6 k y0 y1 y2 y3 y4 y5 y6 y7 y8) (cobblelaw07_FlatKept.j6 (k + 1) y0 y1 y2 y3 y4 y5 y6 y7 y8)) ∧ (∀ y0 y1 y2 y3 y4 y5 y6 y7 y8, LeO (cobblelaw07_FlatKept.l3 k y0 y1 y2 y3 y4 y5 y6 y7 y8) (cobblelaw07_FlatKept.l3 (k + 1) y0 y1 y2 y3 y4 y5 y6 y7 y8))
  | 0 => ⟨fun _ _ _ _ r h => by simp [cobblelaw07_FlatKept.j0] at h, fun _ _ _ _ _ _ _ r h => by simp [cobblelaw07_FlatKept.j1] at h, fun _ _ _ _ _ r h => by simp [cobblelaw07_FlatKept.j2] at h, fun _ _ _ _ _ r h => by simp [cobblelaw07_FlatKept.l0] at h, fun _ _ _ _ _ _ _ r h => by simp [cobblelaw07_FlatKept.l1] at h, fun _ _ _ _ _ _ _ _ r h => by simp [cobblelaw07_FlatKept.l2] at h, fun _ _ _ _ _ _ _ _ _ r h => by simp [cobblelaw07_FlatKept.j6] at h, fun _ _ _ _ _ _ _ _ _ r h => by simp [cobblelaw07_FlatKept.l3] at h⟩
  | k + 1 => by
    obtain ⟨ih0, ih1, ih2, ih3, ih4, ih5, ih6, ih7⟩ := cobblelaw07_FlatKept.mono_l k
    refine ⟨?_, ?_, ?_, ?_, ?_, ?_, ?_, ?_⟩
    · intro y0 y1 y2 y3
      unfold cobblelaw07_FlatKept.j0
      repeat' first
      | (with_reducible exact ih0 _ _ _ _)
      | (with_reducible exact ih1 _ _ _ _ _ _ _)
      | (with_reducible exact ih2 _ _ _ _ _)
      | (with_reducible exact ih3 _ _ _ _ _)
      | (with_reducible exact ih4 _ _ _ _ _ _ _)
      | (with_reducible exact ih5 _ _ _ _ _ _ _ _)
      | (with_reducible exact ih6 _ _ _ _ _ _ _ _ _)
      | (with_reducible exact ih7 _ _ _ _ _ _ _ _ _)
      | (with_reducible exact cobblelaw07_Few.mono _ _ _)
      | (with_reducible exact cobbleref07_CopyRules.mono _ _ _)
      | (with_reducible exact cobbleref07_RulesErr.mono _ _ _)
      | (with_reducible exact LeO.refl _)
      | (with_reducible exact LeO.none _)
      | (with_reducible refine LeO.ite ?_ ?_)
      | (with_reducible refine LeO.bind ?_ (fun _ => ?_))
      | exact ih0 _ _ _ _
      | exact ih1 _ _ _ _ _ _ _
      | exact ih2 _ _ _ _ _
      | exact ih3 _ _ _ _ _
      | exact ih4 _ _ _ _ _ _ _
      | exact ih5 _ _ _ _ _ _ _ _
      | exact ih6 _ _ _ _ _ _ _ _ _
      | exact ih7 _ _ _ _ _ _ _ _ _
      | exact cobblelaw07_Few.mono _ _ _
      | exact cobbleref07_CopyRules.mono _ _ _
      | exact cobbleref07_RulesErr.mono _ _ _
      | exact LeO.none _
      | refine LeO.ite ?_ ?_
      | refine LeO.bind ?_ (fun _ => ?_)
    · intro y0 y1 y2 y3 y4 y5 y6
      unfold cobblelaw07_FlatKept.j1
      repeat' first
      | (with_reducible exact ih0 _ _ _ _)
      | (with_reducible exact ih1 _ _ _ _ _ _ _)
      | (with_reducible exact ih2 _ _ _ _ _)
      | (with_reducible exact ih3 _ _ _ _ _)
      | (with_reducible exact ih4 _ _ _ _ _ _ _)
      | (with_reducible exact ih5 _ _ _ _ _ _ _ _)
      | (with_reducible exact ih6 _ _ _ _ _ _ _ _ _)
      | (with_reducible exact ih7 _ _ _ _ _ _ _ _ _)
      | (with_reducible exact cobblelaw07_Few.mono _ _ _)
      | (with_reducible exact cobbleref07_CopyRules.mono _ _ _)
      | (with_reducible exact cobbleref07_RulesErr.mono _ _ _)
      | (with_reducible exact LeO.refl _)
      | (with_reducible exact LeO.none _)
      | (with_reducible refine LeO.ite ?_ ?_)
      | (with_reducible refine LeO.bind ?_ (fun _ => ?_))
      | exact ih0 _ _ _ _
      | exact ih1 _ _ _ _ _ _ _
      | exact ih2 _ _ _ _ _
      | exact ih3 _ _ _ _ _
      | exact ih4 _ _ _ _ _ _ _
      | exact ih5 _ _ _ _ _ _ _ _
      | exact ih6 _ _ _ _ _ _ _ _ _
      | exact ih7 _ _ _ _ _ _ _ _ _
      | exact cobblelaw07_Few.mono _ _ _
      | exact cobbleref07_CopyRules.mono _ _ _
      | exact cobbleref07_RulesErr.mono _ _ _
      | exact LeO.none _
      | refine LeO.ite ?_ ?_
      | refine LeO.bind ?_ (fun _ => ?_)
    · intro y0 y1 y2 y3 y4
      unfold cobblelaw07_FlatKept.j2
      repeat' first
      | (with_reducible exact ih0 _ _ _ _)
      | (with_reducible exact ih1 _ _ _ _ _ _ _)
      | (with_reducible exact ih2 _ _ _ _ _)
      | (with_reducible exact ih3 _ _ _ _ _)
      | (with_reducible exact ih4 _ _ _ _ _ _ _)
      | (with_reducible exact ih5 _ _ _ _ _ _ _ _)
      | (with_reducible exact ih6 _ _ _ _ _ _ _ _ _)
      | (with_reducible exact ih7 _ _ _ _ _ _ _ _ _)
      | (with_reducible exact cobblelaw07_Few.mono _ _ _)
      | (with_reducible exact cobbleref07_CopyRules.mono _ _ _)
      | (with_reducible exact cobbleref07_RulesErr.mono _ _ _)
      | (with_reducible exact LeO.refl _)
      | (with_reducible exact LeO.none _)
      | (with_reducible refine LeO.ite ?_ ?_)
      | (with_reducible refine LeO.bind ?_ (fun _ => ?_))
      | exact ih0 _ _ _ _
      | exact ih1 _ _ _ _ _ _ _
      | exact ih2 _ _ _ _ _
      | exact ih3 _ _ _ _ _
      | exact ih4 _ _ _ _ _ _ _
      | exact ih5 _ _ _ _ _ _ _ _
      | exact ih6 _ _ _ _ _ _ _ _ _
      | exact ih7 _ _ _ _ _ _ _ _ _
      | exact cobblelaw07_Few.mono _ _ _
      | exact cobbleref07_CopyRules.mono _ _ _
      | exact cobbleref07_RulesErr.mono _ _ _
      | exact LeO.none _
      | refine LeO.ite ?_ ?_
      | refine LeO.bind ?_ (fun _ => ?_)
    · intro y0 y1 y2 y3 y4
      unfold cobblelaw07_FlatKept.l0
      repeat' first
      | (with_reducible exact ih0 _ _ _ _)
      | (with_reducible exact ih1 _ _ _ _ _ _ _)
      | (with_reducible exact ih2 _ _ _ _ _)
      | (with_reducible exact ih3 _ _ _ _ _)
      | (with_reducible exact ih4 _ _ _ _ _ _ _)
      | (with_reducible exact ih5 _ _ _ _ _ _ _ _)
      | (with_reducible exact ih6 _ _ _ _ _ _ _ _ _)
      | (with_reducible exact ih7 _ _ _ _ _ _ _ _ _)
      | (with_reducible exact cobblelaw07_Few.mono _ _ _)
      | (with_reducible exact cobbleref07_CopyRules.mono _ _ _)
      | (with_reducible exact cobbleref07_RulesErr.mono _ _ _)
      | (with_reducible exact LeO.refl _)
      | (with_reducible exact LeO.none _)
      | (with_reducible refine LeO.ite ?_ ?_)
      | (with_reducible refine LeO.bind ?_ (fun _ => ?_))
      | exact ih0 _ _ _ _
      | exact ih1 _ _ _ _ _ _ _
      | exact ih2 _ _ _ _ _
      | exact ih3 _ _ _ _ _
      | exact ih4 _ _ _ _ _ _ _
      | exact ih5 _ _ _ _ _ _ _ _
      | exact ih6 _ _ _ _ _ _ _ _ _
      | exact ih7 _ _ _ _ _ _ _ _ _
      | exact cobblelaw07_Few.mono _ _ _
      | exact cobbleref07_CopyRules.mono _ _ _
      | exact cobbleref07_RulesErr.mono _ _ _
      | exact LeO.none _
      | refine LeO.ite ?_ ?_
      | refine LeO.bind ?_ (fun _ => ?_)
    · intro y0 y1 y2 y3 y4 y5 y6
      unfold cobblelaw07_FlatKept.l1
      repeat' first
      | (with_reducible exact ih0 _ _ _ _)
      | (with_reducible exact ih1 _ _ _ _ _ _ _)
      | (with_reducible exact ih2 _ _ _ _ _)
      | (with_reducible exact ih3 _ _ _ _ _)
      | (with_reducible exact ih4 _ _ _ _ _ _ _)
      | (with_reducible exact ih5 _ _ _ _ _ _ _ _)
      | (with_reducible exact ih6 _ _ _ _ _ _ _ _ _)
      | (with_reducible exact ih7 _ _ _ _ _ _ _ _ _)
      | (with_reducible exact cobblelaw07_Few.mono _ _ _)
      | (with_reducible exact cobbleref07_CopyRules.mono _ _ _)
      | (with_reducible exact cobbleref07_RulesErr.mono _ _ _)
      | (with_reducible exact LeO.refl _)
      | (with_reducible exact LeO.none _)
      | (with_reducible refine LeO.ite ?_ ?_)
      | (with_reducible refine LeO.bind ?_ (fun _ => ?_))
      | exact ih0 _ _ _ _
      | exact ih1 _ _ _ _ _ _ _
      | exact ih2 _ _ _ _ _
      | exact ih3 _ _ _ _ _
      | exact ih4 _ _ _ _ _ _ _
      | exact ih5 _ _ _ _ _ _ _ _
      | exact ih6 _ _ _ _ _ _ _ _ _
      | exact ih7 _ _ _ _ _ _ _ _ _
      | exact cobblelaw07_Few.mono _ _ _
      | exact cobbleref07_CopyRules.mono _ _ _
      | exact cobbleref07_RulesErr.mono _ _ _
      | exact LeO.none _
      | refine LeO.ite ?_ ?_
      | refine LeO.bind ?_ (fun _ => ?_)
    · intro y0 y1 y2 y3 y4 y5 y6 y7
      unfold cobblelaw07_FlatKept.l2
      repeat' first
      | (with_reducible exact ih0 _ _ _ _)
      | (with_reducible exact ih1 _ _ _ _ _ _ _)
      | (with_reducible exact ih2 _ _ _ _ _)
      | (with_reducible exact ih3 _ _ _ _ _)
      | (with_reducible exact ih4 _ _ _ _ _ _ _)
      | (with_reducible exact ih5 _ _ _ _ _ _ _ _)
      | (with_reducible exact ih6 _ _ _ _ _ _ _ _ _)
      | (with_reducible exact ih7 _ _ _ _ _ _ _ _ _)
      | (with_reducible exact cobblelaw07_Few.mono _ _ _)
      | (with_reducible exact cobbleref07_CopyRules.mono _ _ _)
      | (with_reducible exact cobbleref07_RulesErr.mono _ _ _)
      | (with_reducible exact LeO.refl _)
      | (with_reducible exact LeO.none _)
      | (with_reducible refine LeO.ite ?_ ?_)
      | (with_reducible refine LeO.bind ?_ (fun _ => ?_))
      | exact ih0 _ _ _ _
      | exact ih1 _ _ _ _ _ _ _
      | exact ih2 _ _ _ _ _
      | exact ih3 _ _ _ _ _
      | exact ih4 _ _ _ _ _ _ _
      | exact ih5 _ _ _ _ _ _ _ _
      | exact ih6 _ _ _ _ _ _ _ _ _
      | exact ih7 _ _ _ _ _ _ _ _ _
      | exact cobblelaw07_Few.mono _ _ _
      | exact cobbleref07_CopyRules.mono _ _ _
      | exact cobbleref07_RulesErr.mono _ _ _
      | exact LeO.none _
      | refine LeO.ite ?_ ?_
      | refine LeO.bind ?_ (fun _ => ?_)
    · intro y0 y1 y2 y3 y4 y5 y6 y7 y8
      unfold cobblelaw07_FlatKept.j6
      repeat' first
      | (with_reducible exact ih0 _ _ _ _)
      | (with_reducible exact ih1 _ _ _ _ _ _ _)
      | (with_reducible exact ih2 _ _ _ _ _)
      | (with_reducible exact ih3 _ _ _ _ _)
      | (with_reducible exact ih4 _ _ _ _ _ _ _)
      | (with_reducible exact ih5 _ _ _ _ _ _ _ _)
      | (with_reducible exact ih6 _ _ _ _ _ _ _ _ _)
      | (with_reducible exact ih7 _ _ _ _ _ _ _ _ _)
      | (with_reducible exact cobblelaw07_Few.mono _ _ _)
      | (with_reducible exact cobbleref07_CopyRules.mono _ _ _)
      | (with_reducible exact cobbleref07_RulesErr.mono _ _ _)
      | (with_reducible exact LeO.refl _)
      | (with_reducible exact LeO.none _)
      | (with_reducible refine LeO.ite ?_ ?_)
      | (with_reducible refine LeO.bind ?_ (fun _ => ?_))
      | exact ih0 _ _ _ _
      | exact ih1 _ _ _ _ _ _ _
      | exact ih2 _ _ _ _ _
      | exact ih3 _ _ _ _ _
      | exact ih4 _ _ _ _ _ _ _
      | exact ih5 _ _ _ _ _ _ _ _
      | exact ih6 _ _ _ _ _ _ _ _ _
      | exact ih7 _ _ _ _ _ _ _ _ _
      | exact cobblelaw07_Few.mono _ _ _
      | exact cobbleref07_CopyRules.mono _ _ _
      | exact cobbleref07_RulesErr.mono _ _ _
      | exact LeO.none _
      | refine LeO.ite ?_ ?_
      | refine LeO.bind ?_ (fun _ => ?_)
    · intro y0 y1 y2 y3 y4 y5 y6 y7 y8
      unfold cobblelaw07_FlatKept.l3
      repeat' first
      | (with_reducible exact ih0 _ _ _ _)
      | (with_reducible exact ih1 _ _ _ _ _ _ _)
      | (with_reducible exact ih2 _ _ _ _ _)
      | (with_reducible exact ih3 _ _ _ _ _)
      | (with_reducible exact ih4 _ _ _ _ _ _ _)
      | (with_reducible exact ih5 _ _ _ _ _ _ _ _)
      | (with_reducible exact ih6 _ _ _ _ _ _ _ _ _)
      | (with_reducible exact ih7 _ _ _ _ _ _ _ _ _)
      | (with_reducible exact cobblelaw07_Few.mono _ _ _)
      | (with_reducible exact cobbleref07_CopyRules.mono _ _ _)
      | (with_reducible exact cobbleref07_RulesErr.mono _ _ _)
      | (with_reducible exact LeO.refl _)
      | (with_reducible exact LeO.none _)
      | (with_reducible refine LeO.ite ?_ ?_)
      | (with_reducible refine LeO.bind ?_ (fun _ => ?_))
      | exact ih0 _ _ _ _
      | exact ih1 _ _ _ _ _ _ _
      | exact ih2 _ _ _ _ _
      | exact ih3 _ _ _ _ _
      | exact ih4 _ _ _ _ _ _ _
      | exact ih5 _ _ _ _ _ _ _ _
      | exact ih6 _ _ _ _ _ _ _ _ _
      | exact ih7 _ _ _ _ _ _ _ _ _
      | exact cobblelaw07_Few.mono _ _ _
      | exact cobbleref07_CopyRules.mono _ _ _
      | exact cobbleref07_RulesErr.mono _ _ _
      | exact LeO.none _
      | refine LeO.ite ?_ ?_
      | refine LeO.bind ?_ (fun _ => ?_)
theorem cobblelaw07_FlatKept.mono : ∀ a0 a1 a2 k, LeO (cobblelaw07_FlatKept.f k a0 a1 a2) (cobblelaw07_FlatKept.f (k + 1) a0 a1 a2) := by
  intro a0 a1 a2 k
  obtain ⟨ih0, ih1, ih2, ih3, ih4, ih5, ih6, ih7⟩ := cobblelaw07_FlatKept.mono_l k
  unfold cobblelaw07_FlatKept.f
  repeat' first
      | (with_reducible exact ih0 _ _ _ _)
      | (with_reducible exact ih1 _ _ _ _ _ _ _)
      | (with_reducible exact ih2 _ _ _ _ _)
      | (with_reducible exact ih3 _ _ _ _ _)
      | (with_reducible exact ih4 _ _ _ _ _ _ _)
      | (with_reducible exact ih5 _ _ _ _ _ _ _ _)
      | (with_reducible exact ih6 _ _ _ _ _ _ _ _ _)
      | (with_reducible exact ih7 _ _ _ _ _ _ _ _ _)
      | (with_reducible exact cobblelaw07_Few.mono _ _ _)
      | (with_reducible exact cobbleref07_CopyRules.mono _ _ _)
      | (with_reducible exact cobbleref07_RulesErr.mono _ _ _)
      | (with_reducible exact LeO.refl _)
      | (with_reducible exact LeO.none _)
      | (with_reducible refine LeO.ite ?_ ?_)
      | (with_reducible refine LeO.bind ?_ (fun _ => ?_))
      | exact ih0 _ _ _ _
      | exact ih1 _ _ _ _ _ _ _
      | exact ih2 _ _ _ _ _
      | exact ih3 _ _ _ _ _
      | exact ih4 _ _ _ _ _ _ _
      | exact ih5 _ _ _ _ _ _ _ _
      | exact ih6 _ _ _ _ _ _ _ _ _
      | exact ih7 _ _ _ _ _ _ _ _ _
      | exact cobblelaw07_Few.mono _ _ _
      | exact cobbleref07_CopyRules.mono _ _ _
      | exact cobbleref07_RulesErr.mono _ _ _
      | exact LeO.none _
      | refine LeO.ite ?_ ?_
      | refine LeO.bind ?_ (fun _ => ?_)
def cobblelaw07_FlatKept.T25 : Bool × List (List Nat × List Nat) := (true, [([], []), ([], []), ([0, 1], [0, 1]), ([2], [2]), ([], []), ([4], [4]), ([5], [5]), ([6], [6]), ([3, 7], [3, 7]), ([8], [8]), ([9, 8], [9]), ([10], [10]), ([11, 10], [10, 11]), ([12, 10, 10], [10, 12]), ([13], [13]), ([13], [13]), ([14, 15, 13], [13, 14, 15]), ([16, 13], [13, 16]), ([13], [13]), ([13], [13]), ([19, 13], [13, 19]), ([18, 20, 13], [13, 18, 20]), ([21, 13], [13, 21]), ([17, 22, 13], [13, 17, 22]), ([13, 23, 10], [10, 13, 23]), ([10, 24], [10, 24])])
def cobblelaw07_FlatKept.B25 : List Nat := [0, 0, 3, 7, 0, 16, 48, 112, 255, 511, 1023, 2047, 4095, 8191, 16383, 16383, 65535, 131071, 16383, 16383, 540671, 1851391, 3948543, 8388607, 16777215, 33554431]
theorem cobblelaw07_FlatKept.tab25 : rtab .any (opsOf Try.f3 25) = cobblelaw07_FlatKept.T25 := by kernel_rfl
theorem cobblelaw07_FlatKept.bits25 : waitsOk cobblelaw07_FlatKept.T25.2 cobblelaw07_FlatKept.B25 = true := by kernel_rfl
def cobblelaw07_FlatKept.T28 : Bool × List (List Nat × List Nat) := (true, [([], []), ([0], [0]), ([], []), ([2], [2]), ([], []), ([], []), ([4, 5], [4, 5]), ([6], [6]), ([3, 7], [3, 7]), ([8], [8]), ([9], [9]), ([1, 10], [1, 10]), ([0, 1, 2, 3, 4, 5, 6, 7, 8, 9, 10, 11], []), ([12, 11, 11, 0, 1, 2, 3, 4, 5, 6, 7, 8, 9, 10, 11], [11, 12])])
def cobblelaw07_FlatKept.B28 : List Nat := [0, 1, 0, 4, 0, 0, 48, 112, 252, 508, 1020, 2047, 4095, 8191]
theorem cobblelaw07_FlatKept.tab28 : rtab .any (opsOf Try.f3 28) = cobblelaw07_FlatKept.T28 := by kernel_rfl
theorem cobblelaw07_FlatKept.bits28 : waitsOk cobblelaw07_FlatKept.T28.2 cobblelaw07_FlatKept.B28 = true := by kernel_rfl
def cobblelaw07_FlatKept.T32 : Bool × List (List Nat × List Nat) := (true, [([], []), ([0], [0]), ([], []), ([], []), ([3], [3]), ([], []), ([4, 5], [4, 5]), ([6], [6]), ([7], [7]), ([], []), ([9], [9]), ([], []), ([10, 11], [10, 11]), ([12], [12]), ([13], [13]), ([], []), ([], []), ([15, 16], [15, 16]), ([17], [17]), ([14, 18], [14, 18]), ([19], [19]), ([20], [20]), ([8, 21], [8, 21]), ([1, 2, 0, 1, 2, 3, 4, 5, 6, 7, 8, 9, 10, 11, 12, 13, 14, 15, 16, 17, 18, 19, 20, 21, 22], [1, 2]), ([23, 0, 1, 2, 3, 4, 5, 6, 7, 8, 9, 10, 11, 12, 13, 14, 15, 16, 17, 18, 19, 20, 21, 22], [23]), ([24, 22, 22, 0, 1, 2, 3, 4, 5, 6, 7, 8, 9, 10, 11, 12, 13, 14, 15, 16, 17, 18, 19, 20, 21, 22], [22, 24])])
def cobblelaw07_FlatKept.B32 : List Nat := [0, 1, 0, 0, 8, 0, 56, 120, 248, 0, 512, 0, 3584, 7680, 15872, 0, 0, 98304, 229376, 523776, 1048064, 2096640, 4194296, 8388607, 16777215, 33554431]
theorem cobblelaw07_FlatKept.tab32 : rtab .any (opsOf Try.f3 32) = cobblelaw07_FlatKept.T32 := by kernel_rfl
theorem cobblelaw07_FlatKept.bits32 : waitsOk cobblelaw07_FlatKept.T32.2 cobblelaw07_FlatKept.B32 = true := by kernel_rfl
set_option maxHeartbeats 8000000 in
set_option maxRecDepth 100000 in
theorem cobblelaw07_FlatKept.calls (k : Nat) (A0_0 : Option Addr) (c0_0 : Nat) (l0_0 : List Int) (A0_1 : Option Addr) (c0_1 : Nat) (l0_1 : List (S39)) (a1 : Int) (r : Bool) (w : World) (hr0_0 : Kd.C (Kd.int .i64) w A0_0 l0_0.length l0_0) (hc0_0 : l0_0.length ≤ c0_0) (hr0_1 : Kd.C k39 w A0_1 l0_1.length l0_1) (hc0_1 : l0_1.length ≤ c0_1) (h : cobblelaw07_FlatKept.f k l0_0 l0_1 a1 = some r) :
  Calls Try.prog 3 #[.agg #[.slice A0_0 l0_0.length c0_0, .slice A0_1 l0_1.length c0_1], .int .i64 a1] w fun e w' => e = .returned (.bool r) ∧ Below w.heap.size w w' := by
 have hu25 := Try.underlying25
 have HR0_0 := Aside0.mk hr0_0
 have HC0_0 := Aside0.mk hc0_0
 clear hr0_0 hc0_0
 have HR0_1 := Aside0.mk hr0_1
 have HC0_1 := Aside0.mk hc0_1
 clear hr0_1 hc0_1
 have HB := Aside0.mk (Below.refl w.heap.size w)
 have H : ((cobblelaw07_awake.f).bind fun t225 => (if t225 = true then ((cobblelaw07_Few.f k l0_0 l0_1).bind fun t226 => (if t226 = true then ((cobbleref07_RulesErr.f k l0_0 l0_1).bind fun t227 => (if t227 = 0 then ((cobblebase_Within.f a1 0 100000).bind fun t228 => (cobblelaw07_FlatKept.j0 k a1 (!t228) l0_0 l0_1)) else (cobblelaw07_FlatKept.j0 k a1 true l0_0 l0_1))) else (cobblelaw07_FlatKept.j0 k a1 true l0_0 l0_1))) else (some false))) = some r := h
 clear h
 replace H := Option.bind_eq_some_iff.mp H
 obtain ⟨t225, A30, H⟩ := H
 replace H : (if t225 = true then ((cobblelaw07_Few.f k l0_0 l0_1).bind fun t226 => (if t226 = true then ((cobbleref07_RulesErr.f k l0_0 l0_1).bind fun t227 => (if t227 = 0 then ((cobblebase_Within.f a1 0 100000).bind fun t228 => (cobblelaw07_FlatKept.j0 k a1 (!t228) l0_0 l0_1)) else (cobblelaw07_FlatKept.j0 k a1 true l0_0 l0_1))) else (cobblelaw07_FlatKept.j0 k a1 true l0_0 l0_1))) else (some false)) = some r := H
 have A3 := Aside0.mk A30
 clear A30
 by_cases c4 : t225 = true
 ·subst c4
  have H1 : ((cobblelaw07_Few.f k l0_0 l0_1).bind fun t226 => (if t226 = true then ((cobbleref07_RulesErr.f k l0_0 l0_1).bind fun t227 => (if t227 = 0 then ((cobblebase_Within.f a1 0 100000).bind fun t228 => (cobblelaw07_FlatKept.j0 k a1 (!t228) l0_0 l0_1)) else (cobblelaw07_FlatKept.j0 k a1 true l0_0 l0_1))) else (cobblelaw07_FlatKept.j0 k a1 true l0_0 l0_1))) = some r := by rw [if_pos rfl] at H; exact H
  clear H
  have H := H1
  clear H1
  have HC5 := Aside0.mk H
  clear H
  go_enter Try.func3, Try.ntmps3
  go_upto_region 3 with (first | ((with_reducible refine gate_dst (N := 2) rfl ?_); (try (refine gate_guard (by rfl) ?_; dsimp only)); refine box_event ?hg (N := 2) ?hd (cs := #[.slice A0_0 l0_0.length c0_0, .slice A0_1 l0_1.length c0_1]) (t := 25) ?hr ?_; (case hd => rfl); (case hg => rfl); (case hr => first | (go_simp; done) | (go_simp; rfl)); intro gb224 hg w6 hbox hb; have n0_ := Aside0.mk (below_step (by repeat (first | (with_reducible first | exact HB.out | apply below_alloc | apply pw_below_drewN | apply below_drew1) | exact HB.out)) hb); have n1_ := Aside0.mk (hbox); have n2_ := Aside0.mk ((by rw [hg]; exact (below_size (by repeat (first | (with_reducible first | exact HB.out | apply below_alloc | apply pw_below_drewN | apply below_drew1) | exact HB.out))) : w.heap.size ≤ gb224)); have n3_ := Aside0.mk ((by rw [hg]; exact (below_size (by repeat (first | (with_reducible first | exact HB.out | apply below_alloc | apply pw_below_drewN | apply below_drew1) | exact HB.out))) : w.heap.size ≤ gb224)); clear HB; have HB := n0_; have BK224 := n1_; have GW224 := n2_; have GE224 := n3_; clear n0_ n1_ n2_ n3_; clear hb hbox hg) | ((with_reducible refine gate_callee (f := 6) rfl ?_); refine goesL_ (some 19) rfl rfl Try.func6 (by kernel_rfl) rfl #[] rfl (by (try simp only [List.map_toArray, List.map_cons, List.map_nil]); first | done | rfl | (simp only [List.length_drop, List.length_take]; rfl)) ?_; (with_reducible refine (cobblelaw07_awake.calls  true _ A3.out).mono ?_); rintro e w7 ⟨rfl, hb⟩; refine ⟨_, rfl, ?_⟩; have n0_ := Aside0.mk (blk_below (g := gb224) (o := .cells #[.slice A0_0 l0_0.length c0_0, .slice A0_1 l0_1.length c0_1] 25 (0, 0)) (by (with_reducible repeat (first | refine blk_drewN ?_ _ | refine blk_drew ?_ | refine blk_alloc ?_ _)); exact BK224.out) hb); have n1_ := Aside0.mk (below_step (by repeat (first | (with_reducible first | exact HB.out | apply below_alloc | apply pw_below_drewN | apply below_drew1 | refine below_set ?_ GE224.out) | exact HB.out)) hb); clear BK224; clear HB; have BK224 := n0_; have HB := n1_; clear n0_ n1_; (try clear hb); (try clear hb2); (try clear hk); (try clear hi)))
  (try simp only [Act.put, List.setIfInBounds_toArray, List.set_cons_zero, List.set_cons_succ])
  go_cut [33] (fun v33 wc => ∃ (kq : Nat) (x33_4 : Bool), v33 = .bool x33_4 ∧ Aside0 (cobblelaw07_FlatKept.j0 kq a1 x33_4 l0_0 l0_1 = some r) ∧ Aside0 (kq ≤ k) ∧ Aside0 (wc.heap[gb224]? = some (.cells #[(.slice A0_0 l0_0.length c0_0), (.slice A0_1 l0_1.length c0_1)] 25 (0, 0))) ∧ Aside0 (Below w.heap.size w wc))
  case first =>
   have H := HC5.out
   clear HC5
   replace H := Option.bind_eq_some_iff.mp H
   obtain ⟨t226, A80, H⟩ := H
   replace H : (if t226 = true then ((cobbleref07_RulesErr.f k l0_0 l0_1).bind fun t227 => (if t227 = 0 then ((cobblebase_Within.f a1 0 100000).bind fun t228 => (cobblelaw07_FlatKept.j0 k a1 (!t228) l0_0 l0_1)) else (cobblelaw07_FlatKept.j0 k a1 true l0_0 l0_1))) else (cobblelaw07_FlatKept.j0 k a1 true l0_0 l0_1)) = some r := H
   have A8 := Aside0.mk A80
   clear A80
   by_cases c9 : t226 = true
   ·subst c9
    have H1 : ((cobbleref07_RulesErr.f k l0_0 l0_1).bind fun t227 => (if t227 = 0 then ((cobblebase_Within.f a1 0 100000).bind fun t228 => (cobblelaw07_FlatKept.j0 k a1 (!t228) l0_0 l0_1)) else (cobblelaw07_FlatKept.j0 k a1 true l0_0 l0_1))) = some r := by rw [if_pos rfl] at H; exact H
    clear H
    have H := H1
    clear H1
    replace H := Option.bind_eq_some_iff.mp H
    obtain ⟨t227, A100, H⟩ := H
    replace H : (if t227 = 0 then ((cobblebase_Within.f a1 0 100000).bind fun t228 => (cobblelaw07_FlatKept.j0 k a1 (!t228) l0_0 l0_1)) else (cobblelaw07_FlatKept.j0 k a1 true l0_0 l0_1)) = some r := H
    have A10 := Aside0.mk A100
    clear A100
    by_cases c11 : t227 = 0
    ·rw [if_pos c11] at H
     have c11b0 : (t227 == 0) = true := beq_iff_eq.mpr c11
     have c11b1 : (t227 != 0) = false := bne_eq_false_iff_eq.mpr c11
     clear c11
     (first | rw [c11b0] | (simp only [i64_w, i32_w]; rw [c11b0]) | skip)
     replace H := Option.bind_eq_some_iff.mp H
     obtain ⟨t228, A120, H⟩ := H
     replace H : (cobblelaw07_FlatKept.j0 k a1 (!t228) l0_0 l0_1) = some r := H
     have A12 := Aside0.mk A120
     clear A120
     have H' := Aside0.mk H
     clear H
     have hcz13_0 : w7.cell? ⟨gb224, 0, none⟩ = some (.slice A0_0 l0_0.length c0_0) := (blk_cell BK224.out 0).trans rfl
     have hcz13_1 : w7.cell? ⟨gb224, 1, none⟩ = some (.slice A0_1 l0_1.length c0_1) := (blk_cell BK224.out 1).trans rfl
     have hfz13_0 := blk_frozen BK224.out 0
     have hfz13_1 := blk_frozen BK224.out 1
     go_wp2_with (first | ((with_reducible refine gate_callee (f := 7) rfl ?_); refine goesL_ (some 22) rfl rfl Try.func7 (by kernel_rfl) rfl #[.agg #[.slice A0_0 l0_0.length c0_0, .slice A0_1 l0_1.length c0_1]] rfl (by (try simp only [List.map_toArray, List.map_cons, List.map_nil]); first | done | rfl | (simp only [List.length_drop, List.length_take]; rfl)) ?_; (with_reducible refine (cobblelaw07_Few.calls k _ _ l0_0 _ _ l0_1 true _ ?side1 ?side2 ?side3 ?side4 A8.out).mono ?_); (case side1 => repeat (first | exact (Kd.C_below HR0_0.out HB.out) | (with_reducible refine Kd.C_alloc ?_ _) | (with_reducible refine Kd.C_drewN ?_ _) | (with_reducible refine Kd.C_drew ?_))); (case side2 => exact HC0_0.out); (case side3 => repeat (first | exact (Kd.C_below HR0_1.out HB.out) | (with_reducible refine Kd.C_alloc ?_ _) | (with_reducible refine Kd.C_drewN ?_ _) | (with_reducible refine Kd.C_drew ?_))); (case side4 => exact HC0_1.out); rintro e w14 ⟨rfl, hb⟩; refine ⟨_, rfl, ?_⟩; have n0_ := Aside0.mk (blk_below (g := gb224) (o := .cells #[.slice A0_0 l0_0.length c0_0, .slice A0_1 l0_1.length c0_1] 25 (0, 0)) (by (with_reducible repeat (first | refine blk_drewN ?_ _ | refine blk_drew ?_ | refine blk_alloc ?_ _)); exact BK224.out) hb); have n1_ := Aside0.mk (below_step (by repeat (first | (with_reducible first | exact HB.out | apply below_alloc | apply pw_below_drewN | apply below_drew1 | refine below_set ?_ GE224.out) | exact HB.out)) hb); clear BK224; clear HB; have BK224 := n0_; have HB := n1_; clear n0_ n1_; (try clear hb); (try clear hb2); (try clear hk); (try clear hi); have hcz15_0 : w14.cell? ⟨gb224, 0, none⟩ = some (.slice A0_0 l0_0.length c0_0) := (blk_cell BK224.out 0).trans rfl; have hcz15_1 : w14.cell? ⟨gb224, 1, none⟩ = some (.slice A0_1 l0_1.length c0_1) := (blk_cell BK224.out 1).trans rfl; have hfz15_0 := blk_frozen BK224.out 0; have hfz15_1 := blk_frozen BK224.out 1) | (go_at_call 8; (with_reducible refine (cobbleref07_RulesErr.calls k _ _ l0_0 _ _ l0_1 t227 _ ?side1 ?side2 ?side3 ?side4 A10.out).mono ?_); (case side1 => repeat (first | exact (Kd.C_below HR0_0.out HB.out) | (with_reducible refine Kd.C_alloc ?_ _) | (with_reducible refine Kd.C_drewN ?_ _) | (with_reducible refine Kd.C_drew ?_))); (case side2 => exact HC0_0.out); (case side3 => repeat (first | exact (Kd.C_below HR0_1.out HB.out) | (with_reducible refine Kd.C_alloc ?_ _) | (with_reducible refine Kd.C_drewN ?_ _) | (with_reducible refine Kd.C_drew ?_))); (case side4 => exact HC0_1.out); rintro e w16 ⟨rfl, hb⟩; have n0_ := Aside0.mk (blk_below (g := gb224) (o := .cells #[.slice A0_0 l0_0.length c0_0, .slice A0_1 l0_1.length c0_1] 25 (0, 0)) (by (with_reducible repeat (first | refine blk_drewN ?_ _ | refine blk_drew ?_ | refine blk_alloc ?_ _)); exact BK224.out) hb); have n1_ := Aside0.mk (below_step (by repeat (first | (with_reducible first | exact HB.out | apply below_alloc | apply pw_below_drewN | apply below_drew1 | refine below_set ?_ GE224.out) | exact HB.out)) hb); clear BK224; clear HB; have BK224 := n0_; have HB := n1_; clear n0_ n1_; (try clear hb); (try clear hb2); (try clear hk); (try clear hi)) | (go_at_call 9; (with_reducible refine (cobblebase_Within.calls a1 0 100000 t228 _ A12.out).mono ?_); rintro e w' ⟨rfl, ⟨nd, rfl⟩⟩))
     go_meet
     case rel => exact ⟨_, (!t228), (by first | rfl | (simp; done) | (simp [*]; done)), H', ⟨by first | omega | exact Nat.le_refl _⟩, ⟨by (with_reducible repeat (first | refine blk_drewN ?_ _ | refine blk_drew ?_ | refine blk_alloc ?_ _)); exact BK224.out⟩, ⟨by repeat (first | (with_reducible first | exact HB.out | apply below_alloc | apply pw_below_drewN | apply below_drew1 | refine below_set ?_ GE224.out) | exact HB.out)⟩⟩
    ·rw [if_neg c11] at H
     have c11b0 : (t227 == 0) = false := beq_eq_false_iff_ne.mpr c11
     have c11b1 : (t227 != 0) = true := bne_iff_ne.mpr c11
     (first | rw [c11b0] | (simp only [i64_w, i32_w]; rw [c11b0]) | skip)
     have H' := Aside0.mk H
     clear H
     have hcz17_0 : w7.cell? ⟨gb224, 0, none⟩ = some (.slice A0_0 l0_0.length c0_0) := (blk_cell BK224.out 0).trans rfl
     have hcz17_1 : w7.cell? ⟨gb224, 1, none⟩ = some (.slice A0_1 l0_1.length c0_1) := (blk_cell BK224.out 1).trans rfl
     have hfz17_0 := blk_frozen BK224.out 0
     have hfz17_1 := blk_frozen BK224.out 1
     go_wp2_with (first | ((with_reducible refine gate_callee (f := 7) rfl ?_); refine goesL_ (some 22) rfl rfl Try.func7 (by kernel_rfl) rfl #[.agg #[.slice A0_0 l0_0.length c0_0, .slice A0_1 l0_1.length c0_1]] rfl (by (try simp only [List.map_toArray, List.map_cons, List.map_nil]); first | done | rfl | (simp only [List.length_drop, List.length_take]; rfl)) ?_; (with_reducible refine (cobblelaw07_Few.calls k _ _ l0_0 _ _ l0_1 true _ ?side1 ?side2 ?side3 ?side4 A8.out).mono ?_); (case side1 => repeat (first | exact (Kd.C_below HR0_0.out HB.out) | (with_reducible refine Kd.C_alloc ?_ _) | (with_reducible refine Kd.C_drewN ?_ _) | (with_reducible refine Kd.C_drew ?_))); (case side2 => exact HC0_0.out); (case side3 => repeat (first | exact (Kd.C_below HR0_1.out HB.out) | (with_reducible refine Kd.C_alloc ?_ _) | (with_reducible refine Kd.C_drewN ?_ _) | (with_reducible refine Kd.C_drew ?_))); (case side4 => exact HC0_1.out); rintro e w18 ⟨rfl, hb⟩; refine ⟨_, rfl, ?_⟩; have n0_ := Aside0.mk (blk_below (g := gb224) (o := .cells #[.slice A0_0 l0_0.length c0_0, .slice A0_1 l0_1.length c0_1] 25 (0, 0)) (by (with_reducible repeat (first | refine blk_drewN ?_ _ | refine blk_drew ?_ | refine blk_alloc ?_ _)); exact BK224.out) hb); have n1_ := Aside0.mk (below_step (by repeat (first | (with_reducible first | exact HB.out | apply below_alloc | apply pw_below_drewN | apply below_drew1 | refine below_set ?_ GE224.out) | exact HB.out)) hb); clear BK224; clear HB; have BK224 := n0_; have HB := n1_; clear n0_ n1_; (try clear hb); (try clear hb2); (try clear hk); (try clear hi); have hcz19_0 : w18.cell? ⟨gb224, 0, none⟩ = some (.slice A0_0 l0_0.length c0_0) := (blk_cell BK224.out 0).trans rfl; have hcz19_1 : w18.cell? ⟨gb224, 1, none⟩ = some (.slice A0_1 l0_1.length c0_1) := (blk_cell BK224.out 1).trans rfl; have hfz19_0 := blk_frozen BK224.out 0; have hfz19_1 := blk_frozen BK224.out 1) | (go_at_call 8; (with_reducible refine (cobbleref07_RulesErr.calls k _ _ l0_0 _ _ l0_1 t227 _ ?side1 ?side2 ?side3 ?side4 A10.out).mono ?_); (case side1 => repeat (first | exact (Kd.C_below HR0_0.out HB.out) | (with_reducible refine Kd.C_alloc ?_ _) | (with_reducible refine Kd.C_drewN ?_ _) | (with_reducible refine Kd.C_drew ?_))); (case side2 => exact HC0_0.out); (case side3 => repeat (first | exact (Kd.C_below HR0_1.out HB.out) | (with_reducible refine Kd.C_alloc ?_ _) | (with_reducible refine Kd.C_drewN ?_ _) | (with_reducible refine Kd.C_drew ?_))); (case side4 => exact HC0_1.out); rintro e w20 ⟨rfl, hb⟩; have n0_ := Aside0.mk (blk_below (g := gb224) (o := .cells #[.slice A0_0 l0_0.length c0_0, .slice A0_1 l0_1.length c0_1] 25 (0, 0)) (by (with_reducible repeat (first | refine blk_drewN ?_ _ | refine blk_drew ?_ | refine blk_alloc ?_ _)); exact BK224.out) hb); have n1_ := Aside0.mk (below_step (by repeat (first | (with_reducible first | exact HB.out | apply below_alloc | apply pw_below_drewN | apply below_drew1 | refine below_set ?_ GE224.out) | exact HB.out)) hb); clear BK224; clear HB; have BK224 := n0_; have HB := n1_; clear n0_ n1_; (try clear hb); (try clear hb2); (try clear hk); (try clear hi)))
     go_meet
     case rel => exact ⟨_, (true), (by first | rfl | (simp; done) | (simp [*]; done)), H', ⟨by first | omega | exact Nat.le_refl _⟩, ⟨by (with_reducible repeat (first | refine blk_drewN ?_ _ | refine blk_drew ?_ | refine blk_alloc ?_ _)); exact BK224.out⟩, ⟨by repeat (first | (with_reducible first | exact HB.out | apply below_alloc | apply pw_below_drewN | apply below_drew1 | refine below_set ?_ GE224.out) | exact HB.out)⟩⟩
   ·replace c9 := Bool.eq_false_iff.mpr c9
    subst c9
    have H1 : (cobblelaw07_FlatKept.j0 k a1 true l0_0 l0_1) = some r := by rw [if_neg (show ¬ (false = true) by decide)] at H; exact H
    clear H
    have H := H1
    clear H1
    have H' := Aside0.mk H
    clear H
    have hcz21_0 : w7.cell? ⟨gb224, 0, none⟩ = some (.slice A0_0 l0_0.length c0_0) := (blk_cell BK224.out 0).trans rfl
    have hcz21_1 : w7.cell? ⟨gb224, 1, none⟩ = some (.slice A0_1 l0_1.length c0_1) := (blk_cell BK224.out 1).trans rfl
    have hfz21_0 := blk_frozen BK224.out 0
    have hfz21_1 := blk_frozen BK224.out 1
    go_wp2_with (first | ((with_reducible refine gate_callee (f := 7) rfl ?_); refine goesL_ (some 22) rfl rfl Try.func7 (by kernel_rfl) rfl #[.agg #[.slice A0_0 l0_0.length c0_0, .slice A0_1 l0_1.length c0_1]] rfl (by (try simp only [List.map_toArray, List.map_cons, List.map_nil]); first | done | rfl | (simp only [List.length_drop, List.length_take]; rfl)) ?_; (with_reducible refine (cobblelaw07_Few.calls k _ _ l0_0 _ _ l0_1 false _ ?side1 ?side2 ?side3 ?side4 A8.out).mono ?_); (case side1 => repeat (first | exact (Kd.C_below HR0_0.out HB.out) | (with_reducible refine Kd.C_alloc ?_ _) | (with_reducible refine Kd.C_drewN ?_ _) | (with_reducible refine Kd.C_drew ?_))); (case side2 => exact HC0_0.out); (case side3 => repeat (first | exact (Kd.C_below HR0_1.out HB.out) | (with_reducible refine Kd.C_alloc ?_ _) | (with_reducible refine Kd.C_drewN ?_ _) | (with_reducible refine Kd.C_drew ?_))); (case side4 => exact HC0_1.out); rintro e w22 ⟨rfl, hb⟩; refine ⟨_, rfl, ?_⟩; have n0_ := Aside0.mk (blk_below (g := gb224) (o := .cells #[.slice A0_0 l0_0.length c0_0, .slice A0_1 l0_1.length c0_1] 25 (0, 0)) (by (with_reducible repeat (first | refine blk_drewN ?_ _ | refine blk_drew ?_ | refine blk_alloc ?_ _)); exact BK224.out) hb); have n1_ := Aside0.mk (below_step (by repeat (first | (with_reducible first | exact HB.out | apply below_alloc | apply pw_below_drewN | apply below_drew1 | refine below_set ?_ GE224.out) | exact HB.out)) hb); clear BK224; clear HB; have BK224 := n0_; have HB := n1_; clear n0_ n1_; (try clear hb); (try clear hb2); (try clear hk); (try clear hi)))
    go_meet
    case rel => exact ⟨_, (true), (by first | rfl | (simp; done) | (simp [*]; done)), H', ⟨by first | omega | exact Nat.le_refl _⟩, ⟨by (with_reducible repeat (first | refine blk_drewN ?_ _ | refine blk_drew ?_ | refine blk_alloc ?_ _)); exact BK224.out⟩, ⟨by repeat (first | (with_reducible first | exact HB.out | apply below_alloc | apply pw_below_drewN | apply below_drew1 | refine below_set ?_ GE224.out) | exact HB.out)⟩⟩
  case rest =>
   clear HC5
   try clear c1
   try clear p2
   try clear c3
   try clear c4
   try clear c6
   try clear c7
   try clear c9
   try clear c11
   try clear c11b0
   try clear c11b1
   try clear hcz13_0
   try clear hcz13_1
   try clear hcz15_0
   try clear hcz15_1
   try clear hcz17_0
   try clear hcz17_1
   try clear hcz19_0
   try clear hcz19_1
   try clear hcz21_0
   try clear hcz21_1
   try clear hfz13_0
   try clear hfz13_1
   try clear hfz15_0
   try clear hfz15_1
   try clear hfz17_0
   try clear hfz17_1
   try clear hfz19_0
   try clear hfz19_1
   try clear hfz21_0
   try clear hfz21_1
   obtain ⟨kq, x33_4, rfl, HA, HJ4, BK224, HB⟩ := hcut
   cases kq with
   | zero => exact absurd HA.out (by simp [cobblelaw07_FlatKept.j0])
   | succ kj4 =>
    have H := HA.out
    clear HA
    simp only [cobblelaw07_FlatKept.j0] at H
    by_cases c23 : x33_4 = true
    ·subst c23
     have H1 : (some true) = some r := by rw [if_pos rfl] at H; exact H
     clear H
     have H := H1
     clear H1
     obtain rfl := Option.some.inj H
     go_wp2
     go_ret
     exact ⟨by first | rfl | (simp [errW_none, errW_some] <;> rfl) | (simp [*, errW_none, errW_some] <;> rfl), by repeat (first | (with_reducible first | exact HB.out | apply below_alloc | apply pw_below_drewN | apply below_drew1 | refine below_set ?_ GE224.out) | exact HB.out)⟩
    ·replace c23 := Bool.eq_false_iff.mpr c23
     subst c23
     have H1 : ((cobbleref07_CopyRules.f kj4 l0_0 l0_1).bind fun bt229 => ((flat_Best.f bt229.1 bt229.2).bind fun bt235 => ((cobbleref07_CopyRules.f kj4 l0_0 l0_1).bind fun bt240 => ((flat_FirstWithin.f bt240.1 bt240.2 a1).bind fun bt246 => ((cobbleref07_CopyRules.f kj4 l0_0 l0_1).bind fun bt250 => ((flat_ContradictingIn.f bt250.1 bt250.2 a1).bind fun bt256 => (if bt235.2.2 = 0 then (if ((bt246.2 == 0) != (decide (a1 ≥ bt235.2.1))) = true then (cobblelaw07_FlatKept.j1 kj4 a1 bt246.2 bt256.1 bt256.2 true l0_0 l0_1) else (cobblelaw07_FlatKept.j1 kj4 a1 bt246.2 bt256.1 bt256.2 ((bt256.2 == 12) != (bt246.2 == 0)) l0_0 l0_1)) else (cobblelaw07_FlatKept.j1 kj4 a1 bt246.2 bt256.1 bt256.2 true l0_0 l0_1)))))))) = some r := by rw [if_neg (show ¬ (false = true) by decide)] at H; exact H
     clear H
     have H := H1
     clear H1
     replace H := Option.bind_eq_some_iff.mp H
     obtain ⟨⟨t229, t232⟩, A240, H⟩ := H
     replace H : ((flat_Best.f t229 t232).bind fun bt235 => ((cobbleref07_CopyRules.f kj4 l0_0 l0_1).bind fun bt240 => ((flat_FirstWithin.f bt240.1 bt240.2 a1).bind fun bt246 => ((cobbleref07_CopyRules.f kj4 l0_0 l0_1).bind fun bt250 => ((flat_ContradictingIn.f bt250.1 bt250.2 a1).bind fun bt256 => (if bt235.2.2 = 0 then (if ((bt246.2 == 0) != (decide (a1 ≥ bt235.2.1))) = true then (cobblelaw07_FlatKept.j1 kj4 a1 bt246.2 bt256.1 bt256.2 true l0_0 l0_1) else (cobblelaw07_FlatKept.j1 kj4 a1 bt246.2 bt256.1 bt256.2 ((bt256.2 == 12) != (bt246.2 == 0)) l0_0 l0_1)) else (cobblelaw07_FlatKept.j1 kj4 a1 bt246.2 bt256.1 bt256.2 true l0_0 l0_1))))))) = some r := H
     have A24 := Aside0.mk A240
     clear A240
     replace H := Option.bind_eq_some_iff.mp H
     obtain ⟨⟨t235, t238, t239⟩, A250, H⟩ := H
     replace H : ((cobbleref07_CopyRules.f kj4 l0_0 l0_1).bind fun bt240 => ((flat_FirstWithin.f bt240.1 bt240.2 a1).bind fun bt246 => ((cobbleref07_CopyRules.f kj4 l0_0 l0_1).bind fun bt250 => ((flat_ContradictingIn.f bt250.1 bt250.2 a1).bind fun bt256 => (if t239 = 0 then (if ((bt246.2 == 0) != (decide (a1 ≥ t238))) = true then (cobblelaw07_FlatKept.j1 kj4 a1 bt246.2 bt256.1 bt256.2 true l0_0 l0_1) else (cobblelaw07_FlatKept.j1 kj4 a1 bt246.2 bt256.1 bt256.2 ((bt256.2 == 12) != (bt246.2 == 0)) l0_0 l0_1)) else (cobblelaw07_FlatKept.j1 kj4 a1 bt246.2 bt256.1 bt256.2 true l0_0 l0_1)))))) = some r := H
     have A25 := Aside0.mk A250
     clear A250
     replace H := Option.bind_eq_some_iff.mp H
     obtain ⟨⟨t240, t243⟩, A260, H⟩ := H
     replace H : ((flat_FirstWithin.f t240 t243 a1).bind fun bt246 => ((cobbleref07_CopyRules.f kj4 l0_0 l0_1).bind fun bt250 => ((flat_ContradictingIn.f bt250.1 bt250.2 a1).bind fun bt256 => (if t239 = 0 then (if ((bt246.2 == 0) != (decide (a1 ≥ t238))) = true then (cobblelaw07_FlatKept.j1 kj4 a1 bt246.2 bt256.1 bt256.2 true l0_0 l0_1) else (cobblelaw07_FlatKept.j1 kj4 a1 bt246.2 bt256.1 bt256.2 ((bt256.2 == 12) != (bt246.2 == 0)) l0_0 l0_1)) else (cobblelaw07_FlatKept.j1 kj4 a1 bt246.2 bt256.1 bt256.2 true l0_0 l0_1))))) = some r := H
     have A26 := Aside0.mk A260
     clear A260
     replace H := Option.bind_eq_some_iff.mp H
     obtain ⟨⟨t246, t249⟩, A270, H⟩ := H
     replace H : ((cobbleref07_CopyRules.f kj4 l0_0 l0_1).bind fun bt250 => ((flat_ContradictingIn.f bt250.1 bt250.2 a1).bind fun bt256 => (if t239 = 0 then (if ((t249 == 0) != (decide (a1 ≥ t238))) = true then (cobblelaw07_FlatKept.j1 kj4 a1 t249 bt256.1 bt256.2 true l0_0 l0_1) else (cobblelaw07_FlatKept.j1 kj4 a1 t249 bt256.1 bt256.2 ((bt256.2 == 12) != (t249 == 0)) l0_0 l0_1)) else (cobblelaw07_FlatKept.j1 kj4 a1 t249 bt256.1 bt256.2 true l0_0 l0_1)))) = some r := H
     have A27 := Aside0.mk A270
     clear A270
     replace H := Option.bind_eq_some_iff.mp H
     obtain ⟨⟨t250, t253⟩, A280, H⟩ := H
     replace H : ((flat_ContradictingIn.f t250 t253 a1).bind fun bt256 => (if t239 = 0 then (if ((t249 == 0) != (decide (a1 ≥ t238))) = true then (cobblelaw07_FlatKept.j1 kj4 a1 t249 bt256.1 bt256.2 true l0_0 l0_1) else (cobblelaw07_FlatKept.j1 kj4 a1 t249 bt256.1 bt256.2 ((bt256.2 == 12) != (t249 == 0)) l0_0 l0_1)) else (cobblelaw07_FlatKept.j1 kj4 a1 t249 bt256.1 bt256.2 true l0_0 l0_1))) = some r := H
     have A28 := Aside0.mk A280
     clear A280
     replace H := Option.bind_eq_some_iff.mp H
     obtain ⟨⟨t256, t259⟩, A290, H⟩ := H
     replace H : (if t239 = 0 then (if ((t249 == 0) != (decide (a1 ≥ t238))) = true then (cobblelaw07_FlatKept.j1 kj4 a1 t249 t256 t259 true l0_0 l0_1) else (cobblelaw07_FlatKept.j1 kj4 a1 t249 t256 t259 ((t259 == 12) != (t249 == 0)) l0_0 l0_1)) else (cobblelaw07_FlatKept.j1 kj4 a1 t249 t256 t259 true l0_0 l0_1)) = some r := H
     have A29 := Aside0.mk A290
     clear A290
     have HC30 := Aside0.mk H
     clear H
     have hcz31_0 : wc.cell? ⟨gb224, 0, none⟩ = some (.slice A0_0 l0_0.length c0_0) := (blk_cell BK224.out 0).trans rfl
     have hcz31_1 : wc.cell? ⟨gb224, 1, none⟩ = some (.slice A0_1 l0_1.length c0_1) := (blk_cell BK224.out 1).trans rfl
     have hfz31_0 := blk_frozen BK224.out 0
     have hfz31_1 := blk_frozen BK224.out 1
     go_upto_region 8 with (first | ((with_reducible refine gate_callee (f := 11) rfl ?_); refine goesL_ (some 36) rfl rfl Try.func11 (by kernel_rfl) rfl #[.agg #[.slice A0_0 l0_0.length c0_0, .slice A0_1 l0_1.length c0_1]] rfl (by (try simp only [List.map_toArray, List.map_cons, List.map_nil]); first | done | rfl | (simp only [List.length_drop, List.length_take]; rfl)) ?_; (with_reducible refine (cobbleref07_CopyRules.calls kj4 _ _ l0_0 _ _ l0_1 t229 t232 _ ?side1 ?side2 ?side3 ?side4 A24.out).mono ?_); (case side1 => repeat (first | exact (Kd.C_below HR0_0.out HB.out) | (with_reducible refine Kd.C_alloc ?_ _) | (with_reducible refine Kd.C_drewN ?_ _) | (with_reducible refine Kd.C_drew ?_))); (case side2 => exact HC0_0.out); (case side3 => repeat (first | exact (Kd.C_below HR0_1.out HB.out) | (with_reducible refine Kd.C_alloc ?_ _) | (with_reducible refine Kd.C_drewN ?_ _) | (with_reducible refine Kd.C_drew ?_))); (case side4 => exact HC0_1.out); rintro e w32 ⟨v230, v233, rfl, ho0, ho1, hb⟩; refine ⟨_, rfl, ?_⟩; have n0_ := Aside0.mk (Kd.R_lower ho0 (below_size (by repeat (first | (with_reducible first | exact HB.out | apply below_alloc | apply pw_below_drewN | apply below_drew1 | refine below_set ?_ GE224.out) | exact HB.out)))); have n1_ := Aside0.mk (Kd.S_lower ho1 (below_size (by repeat (first | (with_reducible first | exact HB.out | apply below_alloc | apply pw_below_drewN | apply below_drew1 | refine below_set ?_ GE224.out) | exact HB.out)))); have n2_ := Aside0.mk (blk_below (g := gb224) (o := .cells #[.slice A0_0 l0_0.length c0_0, .slice A0_1 l0_1.length c0_1] 25 (0, 0)) (by (with_reducible repeat (first | refine blk_drewN ?_ _ | refine blk_drew ?_ | refine blk_alloc ?_ _)); exact BK224.out) hb); have n3_ := Aside0.mk (below_step (by repeat (first | (with_reducible first | exact HB.out | apply below_alloc | apply pw_below_drewN | apply below_drew1 | refine below_set ?_ GE224.out) | exact HB.out)) hb); clear BK224; clear HB; have HO231 := n0_; have HO234 := n1_; have BK224 := n2_; have HB := n3_; clear n0_ n1_ n2_ n3_; (try clear hb); (try clear hb2); (try clear hk); (try clear hi); (try clear ho0); (try clear ho1); obtain ⟨Ao33, co33, eo33⟩ := Kd.R_slice HO231.out; subst eo33; obtain ⟨Ao34, co34, eo34⟩ := Kd.S_slice HO234.out; subst eo34) | ((with_reducible refine gate_callee (f := 10) rfl ?_); refine goesL_ (some 37) rfl rfl Try.func10 (by kernel_rfl) rfl #[.agg #[.slice Ao33 t229.length co33, .slice Ao34 t232.length co34]] rfl (by (try simp only [List.map_toArray, List.map_cons, List.map_nil]); first | done | rfl | (simp only [List.length_drop, List.length_take]; rfl)) ?_; (with_reducible refine (flat_Best.calls _ _ t229 _ _ t232 t235 t238 t239 _ ?side1 ?side2 ?side3 ?side4 A25.out).mono ?_); (case side1 => repeat (first | exact (Kd.R_reads' HO231.out).2.2 | (with_reducible refine Kd.C_alloc ?_ _) | (with_reducible refine Kd.C_drewN ?_ _) | (with_reducible refine Kd.C_drew ?_))); (case side2 => exact (Kd.R_reads' HO231.out).2.1); (case side3 => repeat (first | exact (Kd.S_reads' HO234.out).2.2 | (with_reducible refine Kd.C_alloc ?_ _) | (with_reducible refine Kd.C_drewN ?_ _) | (with_reducible refine Kd.C_drew ?_))); (case side4 => exact (Kd.S_reads' HO234.out).2.1); rintro e w35 ⟨v236, rfl, ho0, hb⟩; refine ⟨_, rfl, ?_⟩; have n0_ := Aside0.mk (Kd.R_elder' (by (with_reducible repeat (first | apply Kd.R_alloc | apply Kd.R_drewN | apply Kd.R_drew)); exact HO231.out) (Kd.R_base ho0) hb); have n1_ := Aside0.mk (Kd.S_elder' (by (with_reducible repeat (first | apply Kd.S_alloc | apply Kd.S_drewN | apply Kd.S_drew)); exact HO234.out) (Kd.R_base ho0) hb); have n2_ := Aside0.mk (Kd.R_lower (Kd.R_new' ho0 (Kd.R_lt (by (with_reducible repeat (first | apply Kd.R_alloc | apply Kd.R_drewN | apply Kd.R_drew)); exact HO231.out))) (below_size (by repeat (first | (with_reducible first | exact HB.out | apply below_alloc | apply pw_below_drewN | apply below_drew1 | refine below_set ?_ GE224.out) | exact HB.out)))); have n3_ := Aside0.mk (blk_below (g := gb224) (o := .cells #[.slice A0_0 l0_0.length c0_0, .slice A0_1 l0_1.length c0_1] 25 (0, 0)) (by (with_reducible repeat (first | refine blk_drewN ?_ _ | refine blk_drew ?_ | refine blk_alloc ?_ _)); exact BK224.out) hb); have n4_ := Aside0.mk (below_step (by repeat (first | (with_reducible first | exact HB.out | apply below_alloc | apply pw_below_drewN | apply below_drew1 | refine below_set ?_ GE224.out) | exact HB.out)) hb); clear HO231; clear HO234; clear BK224; clear HB; have HO231 := n0_; have HO234 := n1_; have HO237 := n2_; have BK224 := n3_; have HB := n4_; clear n0_ n1_ n2_ n3_ n4_; (try clear hb); (try clear hb2); (try clear hk); (try clear hi); (try clear ho0); have hcz36_0 : w35.cell? ⟨gb224, 0, none⟩ = some (.slice A0_0 l0_0.length c0_0) := (blk_cell BK224.out 0).trans rfl; have hcz36_1 : w35.cell? ⟨gb224, 1, none⟩ = some (.slice A0_1 l0_1.length c0_1) := (blk_cell BK224.out 1).trans rfl; have hfz36_0 := blk_frozen BK224.out 0; have hfz36_1 := blk_frozen BK224.out 1) | ((with_reducible refine gate_callee (f := 11) rfl ?_); refine goesL_ (some 43) rfl rfl Try.func11 (by kernel_rfl) rfl #[.agg #[.slice A0_0 l0_0.length c0_0, .slice A0_1 l0_1.length c0_1]] rfl (by (try simp only [List.map_toArray, List.map_cons, List.map_nil]); first | done | rfl | (simp only [List.length_drop, List.length_take]; rfl)) ?_; (with_reducible refine (cobbleref07_CopyRules.calls kj4 _ _ l0_0 _ _ l0_1 t240 t243 _ ?side1 ?side2 ?side3 ?side4 A26.out).mono ?_); (case side1 => repeat (first | exact (Kd.C_below HR0_0.out HB.out) | (with_reducible refine Kd.C_alloc ?_ _) | (with_reducible refine Kd.C_drewN ?_ _) | (with_reducible refine Kd.C_drew ?_))); (case side2 => exact HC0_0.out); (case side3 => repeat (first | exact (Kd.C_below HR0_1.out HB.out) | (with_reducible refine Kd.C_alloc ?_ _) | (with_reducible refine Kd.C_drewN ?_ _) | (with_reducible refine Kd.C_drew ?_))); (case side4 => exact HC0_1.out); rintro e w37 ⟨v241, v244, rfl, ho0, ho1, hb⟩; refine ⟨_, rfl, ?_⟩; have n0_ := Aside0.mk (Kd.R_elder' (by (with_reducible repeat (first | apply Kd.R_alloc | apply Kd.R_drewN | apply Kd.R_drew)); exact HO231.out) (Kd.R_base ho0) hb); have n1_ := Aside0.mk (Kd.S_mono (Kd.S_told (Kd.S_told (Kd.S_old (by (with_reducible repeat (first | apply Kd.S_alloc | apply Kd.S_drewN | apply Kd.S_drew)); exact HO234.out) hb) (Kd.R_base ho0)) (Kd.S_base ho1)) (fun _ h_ => h_.1)); have n2_ := Aside0.mk (Kd.R_elder' (by (with_reducible repeat (first | apply Kd.R_alloc | apply Kd.R_drewN | apply Kd.R_drew)); exact HO237.out) (Kd.R_base ho0) hb); have n3_ := Aside0.mk (Kd.R_lower (Kd.R_new' (Kd.R_new' ho0 (Kd.R_lt (by (with_reducible repeat (first | apply Kd.R_alloc | apply Kd.R_drewN | apply Kd.R_drew)); exact HO231.out))) (Kd.R_lt (by (with_reducible repeat (first | apply Kd.R_alloc | apply Kd.R_drewN | apply Kd.R_drew)); exact HO237.out))) (below_size (by repeat (first | (with_reducible first | exact HB.out | apply below_alloc | apply pw_below_drewN | apply below_drew1 | refine below_set ?_ GE224.out) | exact HB.out)))); have n4_ := Aside0.mk (Kd.S_lower (Kd.S_new' (Kd.S_new' (Kd.S_new' ho1 (Kd.R_lt (by (with_reducible repeat (first | apply Kd.R_alloc | apply Kd.R_drewN | apply Kd.R_drew)); exact HO231.out))) (Kd.S_lt (by (with_reducible repeat (first | apply Kd.S_alloc | apply Kd.S_drewN | apply Kd.S_drew)); exact HO234.out))) (Kd.R_lt (by (with_reducible repeat (first | apply Kd.R_alloc | apply Kd.R_drewN | apply Kd.R_drew)); exact HO237.out))) (below_size (by repeat (first | (with_reducible first | exact HB.out | apply below_alloc | apply pw_below_drewN | apply below_drew1 | refine below_set ?_ GE224.out) | exact HB.out)))); have n5_ := Aside0.mk (blk_below (g := gb224) (o := .cells #[.slice A0_0 l0_0.length c0_0, .slice A0_1 l0_1.length c0_1] 25 (0, 0)) (by (with_reducible repeat (first | refine blk_drewN ?_ _ | refine blk_drew ?_ | refine blk_alloc ?_ _)); exact BK224.out) hb); have n6_ := Aside0.mk (below_step (by repeat (first | (with_reducible first | exact HB.out | apply below_alloc | apply pw_below_drewN | apply below_drew1 | refine below_set ?_ GE224.out) | exact HB.out)) hb); clear HO231; clear HO234; clear HO237; clear BK224; clear HB; have HO231 := n0_; have HO234 := n1_; have HO237 := n2_; have HO242 := n3_; have HO245 := n4_; have BK224 := n5_; have HB := n6_; clear n0_ n1_ n2_ n3_ n4_ n5_ n6_; (try clear hb); (try clear hb2); (try clear hk); (try clear hi); (try clear ho0); (try clear ho1); obtain ⟨Ao38, co38, eo38⟩ := Kd.R_slice HO242.out; subst eo38; obtain ⟨Ao39, co39, eo39⟩ := Kd.S_slice HO245.out; subst eo39) | ((with_reducible refine gate_callee (f := 12) rfl ?_); refine goesL_ (some 45) rfl rfl Try.func12 (by kernel_rfl) rfl #[.agg #[.slice Ao38 t240.length co38, .slice Ao39 t243.length co39], .int .i64 a1] rfl (by (try simp only [List.map_toArray, List.map_cons, List.map_nil]); first | done | rfl | (simp only [List.length_drop, List.length_take]; rfl)) ?_; (with_reducible refine (flat_FirstWithin.calls _ _ t240 _ _ t243 a1 t246 t249 _ ?side1 ?side2 ?side3 ?side4 A27.out).mono ?_); (case side1 => repeat (first | exact (Kd.R_reads' HO242.out).2.2 | (with_reducible refine Kd.C_alloc ?_ _) | (with_reducible refine Kd.C_drewN ?_ _) | (with_reducible refine Kd.C_drew ?_))); (case side2 => exact (Kd.R_reads' HO242.out).2.1); (case side3 => repeat (first | exact (Kd.S_reads' HO245.out).2.2 | (with_reducible refine Kd.C_alloc ?_ _) | (with_reducible refine Kd.C_drewN ?_ _) | (with_reducible refine Kd.C_drew ?_))); (case side4 => exact (Kd.S_reads' HO245.out).2.1); rintro e w40 ⟨v247, rfl, ho0, hb⟩; refine ⟨_, rfl, ?_⟩; have n0_ := Aside0.mk (Kd.R_elder' (by (with_reducible repeat (first | apply Kd.R_alloc | apply Kd.R_drewN | apply Kd.R_drew)); exact HO231.out) (Kd.R_base ho0) hb); have n1_ := Aside0.mk (Kd.S_elder' (by (with_reducible repeat (first | apply Kd.S_alloc | apply Kd.S_drewN | apply Kd.S_drew)); exact HO234.out) (Kd.R_base ho0) hb); have n2_ := Aside0.mk (Kd.R_elder' (by (with_reducible repeat (first | apply Kd.R_alloc | apply Kd.R_drewN | apply Kd.R_drew)); exact HO237.out) (Kd.R_base ho0) hb); have n3_ := Aside0.mk (Kd.R_elder' (by (with_reducible repeat (first | apply Kd.R_alloc | apply Kd.R_drewN | apply Kd.R_drew)); exact HO242.out) (Kd.R_base ho0) hb); have n4_ := Aside0.mk (Kd.S_elder' (by (with_reducible repeat (first | apply Kd.S_alloc | apply Kd.S_drewN | apply Kd.S_drew)); exact HO245.out) (Kd.R_base ho0) hb); have n5_ := Aside0.mk (Kd.R_lower (Kd.R_new' (Kd.R_new' (Kd.R_new' ho0 (Kd.R_lt (by (with_reducible repeat (first | apply Kd.R_alloc | apply Kd.R_drewN | apply Kd.R_drew)); exact HO231.out))) (Kd.R_lt (by (with_reducible repeat (first | apply Kd.R_alloc | apply Kd.R_drewN | apply Kd.R_drew)); exact HO237.out))) (Kd.R_lt (by (with_reducible repeat (first | apply Kd.R_alloc | apply Kd.R_drewN | apply Kd.R_drew)); exact HO242.out))) (below_size (by repeat (first | (with_reducible first | exact HB.out | apply below_alloc | apply pw_below_drewN | apply below_drew1 | refine below_set ?_ GE224.out) | exact HB.out)))); have n6_ := Aside0.mk (blk_below (g := gb224) (o := .cells #[.slice A0_0 l0_0.length c0_0, .slice A0_1 l0_1.length c0_1] 25 (0, 0)) (by (with_reducible repeat (first | refine blk_drewN ?_ _ | refine blk_drew ?_ | refine blk_alloc ?_ _)); exact BK224.out) hb); have n7_ := Aside0.mk (below_step (by repeat (first | (with_reducible first | exact HB.out | apply below_alloc | apply pw_below_drewN | apply below_drew1 | refine below_set ?_ GE224.out) | exact HB.out)) hb); clear HO231; clear HO234; clear HO237; clear HO242; clear HO245; clear BK224; clear HB; have HO231 := n0_; have HO234 := n1_; have HO237 := n2_; have HO242 := n3_; have HO245 := n4_; have HO248 := n5_; have BK224 := n6_; have HB := n7_; clear n0_ n1_ n2_ n3_ n4_ n5_ n6_ n7_; (try clear hb); (try clear hb2); (try clear hk); (try clear hi); (try clear ho0); have hcz41_0 : w40.cell? ⟨gb224, 0, none⟩ = some (.slice A0_0 l0_0.length c0_0) := (blk_cell BK224.out 0).trans rfl; have hcz41_1 : w40.cell? ⟨gb224, 1, none⟩ = some (.slice A0_1 l0_1.length c0_1) := (blk_cell BK224.out 1).trans rfl; have hfz41_0 := blk_frozen BK224.out 0; have hfz41_1 := blk_frozen BK224.out 1) | ((with_reducible refine gate_callee (f := 11) rfl ?_); refine goesL_ (some 50) rfl rfl Try.func11 (by kernel_rfl) rfl #[.agg #[.slice A0_0 l0_0.length c0_0, .slice A0_1 l0_1.length c0_1]] rfl (by (try simp only [List.map_toArray, List.map_cons, List.map_nil]); first | done | rfl | (simp only [List.length_drop, List.length_take]; rfl)) ?_; (with_reducible refine (cobbleref07_CopyRules.calls kj4 _ _ l0_0 _ _ l0_1 t250 t253 _ ?side1 ?side2 ?side3 ?side4 A28.out).mono ?_); (case side1 => repeat (first | exact (Kd.C_below HR0_0.out HB.out) | (with_reducible refine Kd.C_alloc ?_ _) | (with_reducible refine Kd.C_drewN ?_ _) | (with_reducible refine Kd.C_drew ?_))); (case side2 => exact HC0_0.out); (case side3 => repeat (first | exact (Kd.C_below HR0_1.out HB.out) | (with_reducible refine Kd.C_alloc ?_ _) | (with_reducible refine Kd.C_drewN ?_ _) | (with_reducible refine Kd.C_drew ?_))); (case side4 => exact HC0_1.out); rintro e w42 ⟨v251, v254, rfl, ho0, ho1, hb⟩; refine ⟨_, rfl, ?_⟩; have n0_ := Aside0.mk (Kd.R_elder' (by (with_reducible repeat (first | apply Kd.R_alloc | apply Kd.R_drewN | apply Kd.R_drew)); exact HO231.out) (Kd.R_base ho0) hb); have n1_ := Aside0.mk (Kd.S_mono (Kd.S_told (Kd.S_told (Kd.S_old (by (with_reducible repeat (first | apply Kd.S_alloc | apply Kd.S_drewN | apply Kd.S_drew)); exact HO234.out) hb) (Kd.R_base ho0)) (Kd.S_base ho1)) (fun _ h_ => h_.1)); have n2_ := Aside0.mk (Kd.R_elder' (by (with_reducible repeat (first | apply Kd.R_alloc | apply Kd.R_drewN | apply Kd.R_drew)); exact HO237.out) (Kd.R_base ho0) hb); have n3_ := Aside0.mk (Kd.R_elder' (by (with_reducible repeat (first | apply Kd.R_alloc | apply Kd.R_drewN | apply Kd.R_drew)); exact HO242.out) (Kd.R_base ho0) hb); have n4_ := Aside0.mk (Kd.S_mono (Kd.S_told (Kd.S_told (Kd.S_old (by (with_reducible repeat (first | apply Kd.S_alloc | apply Kd.S_drewN | apply Kd.S_drew)); exact HO245.out) hb) (Kd.R_base ho0)) (Kd.S_base ho1)) (fun _ h_ => h_.1)); have n5_ := Aside0.mk (Kd.R_elder' (by (with_reducible repeat (first | apply Kd.R_alloc | apply Kd.R_drewN | apply Kd.R_drew)); exact HO248.out) (Kd.R_base ho0) hb); have n6_ := Aside0.mk (Kd.R_lower (Kd.R_new' (Kd.R_new' (Kd.R_new' (Kd.R_new' ho0 (Kd.R_lt (by (with_reducible repeat (first | apply Kd.R_alloc | apply Kd.R_drewN | apply Kd.R_drew)); exact HO231.out))) (Kd.R_lt (by (with_reducible repeat (first | apply Kd.R_alloc | apply Kd.R_drewN | apply Kd.R_drew)); exact HO237.out))) (Kd.R_lt (by (with_reducible repeat (first | apply Kd.R_alloc | apply Kd.R_drewN | apply Kd.R_drew)); exact HO242.out))) (Kd.R_lt (by (with_reducible repeat (first | apply Kd.R_alloc | apply Kd.R_drewN | apply Kd.R_drew)); exact HO248.out))) (below_size (by repeat (first | (with_reducible first | exact HB.out | apply below_alloc | apply pw_below_drewN | apply below_drew1 | refine below_set ?_ GE224.out) | exact HB.out)))); have n7_ := Aside0.mk (Kd.S_lower (Kd.S_new' (Kd.S_new' (Kd.S_new' (Kd.S_new' (Kd.S_new' (Kd.S_new' ho1 (Kd.R_lt (by (with_reducible repeat (first | apply Kd.R_alloc | apply Kd.R_drewN | apply Kd.R_drew)); exact HO231.out))) (Kd.S_lt (by (with_reducible repeat (first | apply Kd.S_alloc | apply Kd.S_drewN | apply Kd.S_drew)); exact HO234.out))) (Kd.R_lt (by (with_reducible repeat (first | apply Kd.R_alloc | apply Kd.R_drewN | apply Kd.R_drew)); exact HO237.out))) (Kd.R_lt (by (with_reducible repeat (first | apply Kd.R_alloc | apply Kd.R_drewN | apply Kd.R_drew)); exact HO242.out))) (Kd.S_lt (by (with_reducible repeat (first | apply Kd.S_alloc | apply Kd.S_drewN | apply Kd.S_drew)); exact HO245.out))) (Kd.R_lt (by (with_reducible repeat (first | apply Kd.R_alloc | apply Kd.R_drewN | apply Kd.R_drew)); exact HO248.out))) (below_size (by repeat (first | (with_reducible first | exact HB.out | apply below_alloc | apply pw_below_drewN | apply below_drew1 | refine below_set ?_ GE224.out) | exact HB.out)))); have n8_ := Aside0.mk (blk_below (g := gb224) (o := .cells #[.slice A0_0 l0_0.length c0_0, .slice A0_1 l0_1.length c0_1] 25 (0, 0)) (by (with_reducible repeat (first | refine blk_drewN ?_ _ | refine blk_drew ?_ | refine blk_alloc ?_ _)); exact BK224.out) hb); have n9_ := Aside0.mk (below_step (by repeat (first | (with_reducible first | exact HB.out | apply below_alloc | apply pw_below_drewN | apply below_drew1 | refine below_set ?_ GE224.out) | exact HB.out)) hb); clear HO231; clear HO234; clear HO237; clear HO242; clear HO245; clear HO248; clear BK224; clear HB; have HO231 := n0_; have HO234 := n1_; have HO237 := n2_; have HO242 := n3_; have HO245 := n4_; have HO248 := n5_; have HO252 := n6_; have HO255 := n7_; have BK224 := n8_; have HB := n9_; clear n0_ n1_ n2_ n3_ n4_ n5_ n6_ n7_ n8_ n9_; (try clear hb); (try clear hb2); (try clear hk); (try clear hi); (try clear ho0); (try clear ho1); obtain ⟨Ao43, co43, eo43⟩ := Kd.R_slice HO252.out; subst eo43; obtain ⟨Ao44, co44, eo44⟩ := Kd.S_slice HO255.out; subst eo44) | ((with_reducible refine gate_callee (f := 13) rfl ?_); refine goesL_ (some 52) rfl rfl Try.func13 (by kernel_rfl) rfl #[.agg #[.slice Ao43 t250.length co43, .slice Ao44 t253.length co44], .int .i64 a1] rfl (by (try simp only [List.map_toArray, List.map_cons, List.map_nil]); first | done | rfl | (simp only [List.length_drop, List.length_take]; rfl)) ?_; (with_reducible refine (flat_ContradictingIn.calls _ _ t250 _ _ t253 a1 t256 t259 _ ?side1 ?side2 ?side3 ?side4 A29.out).mono ?_); (case side1 => repeat (first | exact (Kd.R_reads' HO252.out).2.2 | (with_reducible refine Kd.C_alloc ?_ _) | (with_reducible refine Kd.C_drewN ?_ _) | (with_reducible refine Kd.C_drew ?_))); (case side2 => exact (Kd.R_reads' HO252.out).2.1); (case side3 => repeat (first | exact (Kd.S_reads' HO255.out).2.2 | (with_reducible refine Kd.C_alloc ?_ _) | (with_reducible refine Kd.C_drewN ?_ _) | (with_reducible refine Kd.C_drew ?_))); (case side4 => exact (Kd.S_reads' HO255.out).2.1); rintro e w45 ⟨v257, rfl, ho0, hb⟩; refine ⟨_, rfl, ?_⟩; have n0_ := Aside0.mk (Kd.R_elder' (by (with_reducible repeat (first | apply Kd.R_alloc | apply Kd.R_drewN | apply Kd.R_drew)); exact HO231.out) (Kd.R_base ho0) hb); have n1_ := Aside0.mk (Kd.S_elder' (by (with_reducible repeat (first | apply Kd.S_alloc | apply Kd.S_drewN | apply Kd.S_drew)); exact HO234.out) (Kd.R_base ho0) hb); have n2_ := Aside0.mk (Kd.R_elder' (by (with_reducible repeat (first | apply Kd.R_alloc | apply Kd.R_drewN | apply Kd.R_drew)); exact HO237.out) (Kd.R_base ho0) hb); have n3_ := Aside0.mk (Kd.R_elder' (by (with_reducible repeat (first | apply Kd.R_alloc | apply Kd.R_drewN | apply Kd.R_drew)); exact HO242.out) (Kd.R_base ho0) hb); have n4_ := Aside0.mk (Kd.S_elder' (by (with_reducible repeat (first | apply Kd.S_alloc | apply Kd.S_drewN | apply Kd.S_drew)); exact HO245.out) (Kd.R_base ho0) hb); have n5_ := Aside0.mk (Kd.R_elder' (by (with_reducible repeat (first | apply Kd.R_alloc | apply Kd.R_drewN | apply Kd.R_drew)); exact HO248.out) (Kd.R_base ho0) hb); have n6_ := Aside0.mk (Kd.R_elder' (by (with_reducible repeat (first | apply Kd.R_alloc | apply Kd.R_drewN | apply Kd.R_drew)); exact HO252.out) (Kd.R_base ho0) hb); have n7_ := Aside0.mk (Kd.S_elder' (by (with_reducible repeat (first | apply Kd.S_alloc | apply Kd.S_drewN | apply Kd.S_drew)); exact HO255.out) (Kd.R_base ho0) hb); have n8_ := Aside0.mk (Kd.R_lower (Kd.R_new' (Kd.R_new' (Kd.R_new' (Kd.R_new' (Kd.R_new' ho0 (Kd.R_lt (by (with_reducible repeat (first | apply Kd.R_alloc | apply Kd.R_drewN | apply Kd.R_drew)); exact HO231.out))) (Kd.R_lt (by (with_reducible repeat (first | apply Kd.R_alloc | apply Kd.R_drewN | apply Kd.R_drew)); exact HO237.out))) (Kd.R_lt (by (with_reducible repeat (first | apply Kd.R_alloc | apply Kd.R_drewN | apply Kd.R_drew)); exact HO242.out))) (Kd.R_lt (by (with_reducible repeat (first | apply Kd.R_alloc | apply Kd.R_drewN | apply Kd.R_drew)); exact HO248.out))) (Kd.R_lt (by (with_reducible repeat (first | apply Kd.R_alloc | apply Kd.R_drewN | apply Kd.R_drew)); exact HO252.out))) (below_size (by repeat (first | (with_reducible first | exact HB.out | apply below_alloc | apply pw_below_drewN | apply below_drew1 | refine below_set ?_ GE224.out) | exact HB.out)))); have n9_ := Aside0.mk (blk_below (g := gb224) (o := .cells #[.slice A0_0 l0_0.length c0_0, .slice A0_1 l0_1.length c0_1] 25 (0, 0)) (by (with_reducible repeat (first | refine blk_drewN ?_ _ | refine blk_drew ?_ | refine blk_alloc ?_ _)); exact BK224.out) hb); have n10_ := Aside0.mk (below_step (by repeat (first | (with_reducible first | exact HB.out | apply below_alloc | apply pw_below_drewN | apply below_drew1 | refine below_set ?_ GE224.out) | exact HB.out)) hb); clear HO231; clear HO234; clear HO237; clear HO242; clear HO245; clear HO248; clear HO252; clear HO255; clear BK224; clear HB; have HO231 := n0_; have HO234 := n1_; have HO237 := n2_; have HO242 := n3_; have HO245 := n4_; have HO248 := n5_; have HO252 := n6_; have HO255 := n7_; have HO258 := n8_; have BK224 := n9_; have HB := n10_; clear n0_ n1_ n2_ n3_ n4_ n5_ n6_ n7_ n8_ n9_ n10_; (try clear hb); (try clear hb2); (try clear hk); (try clear hi); (try clear ho0)))
     (try simp only [Act.put, List.setIfInBounds_toArray, List.set_cons_zero, List.set_cons_succ])
     go_cut [71] (fun v71 wc => ∃ (kq : Nat) (x71_29 : Bool), v71 = .bool x71_29 ∧ Aside0 (cobblelaw07_FlatKept.j1 kq a1 t249 t256 t259 x71_29 l0_0 l0_1 = some r) ∧ Aside0 (kq ≤ kj4) ∧ Aside0 (Kd.R (Kd.int .i64) 3 wc w.heap.size (fun _ => True) v257 t256) ∧ Aside0 (wc.heap[gb224]? = some (.cells #[(.slice A0_0 l0_0.length c0_0), (.slice A0_1 l0_1.length c0_1)] 25 (0, 0))) ∧ Aside0 (Below w.heap.size w wc))
     case first =>
      have H := HC30.out
      clear HC30
      by_cases c46 : t239 = 0
      ·rw [if_pos c46] at H
       have c46b0 : (t239 == 0) = true := beq_iff_eq.mpr c46
       have c46b1 : (t239 != 0) = false := bne_eq_false_iff_eq.mpr c46
       clear c46
       (first | rw [c46b0] | (simp only [i64_w, i32_w]; rw [c46b0]) | skip)
       by_cases c47 : ((t249 == 0) != (decide (a1 ≥ t238))) = true
       ·rw [if_pos c47] at H
        have c47b0 : ((t249 == 0) != (decide (a1 ≥ t238))) = true := c47
        (try (have c47b1 : decide ((t249 == 0) = (decide (a1 ≥ t238))) = false := by simpa using c47))
        (try (have c47b2 : ((t249 == 0) == (decide (a1 ≥ t238))) = false := by simpa using c47))
        (try (have c47b3 : ¬ ((t249 == 0) = (decide (a1 ≥ t238))) := by simpa using c47))
        clear c47
        have H' := Aside0.mk H
        clear H
        go_wp2
        go_meet
        case rel => exact ⟨_, (true), (by first | rfl | (simp; done) | (simp [*]; done)), H', ⟨by have := HJ4.out; first | omega | exact Nat.le_refl _⟩, ⟨by (with_reducible repeat (first | apply Kd.R_alloc | apply Kd.R_drewN | apply Kd.R_drew)); exact Kd.R_mono HO258.out (fun _ hk => trivial)⟩, ⟨by (with_reducible repeat (first | refine blk_drewN ?_ _ | refine blk_drew ?_ | refine blk_alloc ?_ _)); exact BK224.out⟩, ⟨by repeat (first | (with_reducible first | exact HB.out | apply below_alloc | apply pw_below_drewN | apply below_drew1 | refine below_set ?_ GE224.out) | exact HB.out)⟩⟩
       ·rw [if_neg c47] at H
        have c47b0 : ((t249 == 0) != (decide (a1 ≥ t238))) = false := by simpa using c47
        (try (have c47b1 : decide ((t249 == 0) = (decide (a1 ≥ t238))) = true := by simpa using c47))
        (try (have c47b2 : ((t249 == 0) == (decide (a1 ≥ t238))) = true := by simpa using c47))
        clear c47
        have H' := Aside0.mk H
        clear H
        go_wp2
        go_meet
        case rel => exact ⟨_, (((t259 == 12) != (t249 == 0))), (by first | rfl | (simp; done) | (simp [*]; done)), H', ⟨by have := HJ4.out; first | omega | exact Nat.le_refl _⟩, ⟨by (with_reducible repeat (first | apply Kd.R_alloc | apply Kd.R_drewN | apply Kd.R_drew)); exact Kd.R_mono HO258.out (fun _ hk => trivial)⟩, ⟨by (with_reducible repeat (first | refine blk_drewN ?_ _ | refine blk_drew ?_ | refine blk_alloc ?_ _)); exact BK224.out⟩, ⟨by repeat (first | (with_reducible first | exact HB.out | apply below_alloc | apply pw_below_drewN | apply below_drew1 | refine below_set ?_ GE224.out) | exact HB.out)⟩⟩
      ·rw [if_neg c46] at H
       have c46b0 : (t239 == 0) = false := beq_eq_false_iff_ne.mpr c46
       have c46b1 : (t239 != 0) = true := bne_iff_ne.mpr c46
       (first | rw [c46b0] | (simp only [i64_w, i32_w]; rw [c46b0]) | skip)
       have H' := Aside0.mk H
       clear H
       go_wp2
       go_meet
       case rel => exact ⟨_, (true), (by first | rfl | (simp; done) | (simp [*]; done)), H', ⟨by have := HJ4.out; first | omega | exact Nat.le_refl _⟩, ⟨by (with_reducible repeat (first | apply Kd.R_alloc | apply Kd.R_drewN | apply Kd.R_drew)); exact Kd.R_mono HO258.out (fun _ hk => trivial)⟩, ⟨by (with_reducible repeat (first | refine blk_drewN ?_ _ | refine blk_drew ?_ | refine blk_alloc ?_ _)); exact BK224.out⟩, ⟨by repeat (first | (with_reducible first | exact HB.out | apply below_alloc | apply pw_below_drewN | apply below_drew1 | refine below_set ?_ GE224.out) | exact HB.out)⟩⟩
     case rest =>
      clear HC30
      try clear c1
      try clear c2
      try clear p2
      try clear c3
      try clear c4
      try clear c6
      try clear c7
      try clear c9
      try clear c10
      try clear c11
      try clear c11b0
      try clear c11b1
      try clear c12
      try clear c13
      try clear c23
      try clear c46
      try clear c46b0
      try clear c46b1
      try clear c47
      try clear c47b0
      try clear c47b1
      try clear c47b2
      try clear hcz13_0
      try clear hcz13_1
      try clear hcz15_0
      try clear hcz15_1
      try clear hcz17_0
      try clear hcz17_1
      try clear hcz19_0
      try clear hcz19_1
      try clear hcz21_0
      try clear hcz21_1
      try clear hcz31_0
      try clear hcz31_1
      try clear hcz36_0
      try clear hcz36_1
      try clear hcz41_0
      try clear hcz41_1
      try clear hfz13_0
      try clear hfz13_1
      try clear hfz15_0
      try clear hfz15_1
      try clear hfz17_0
      try clear hfz17_1
      try clear hfz19_0
      try clear hfz19_1
      try clear hfz21_0
      try clear hfz21_1
      try clear hfz31_0
      try clear hfz31_1
      try clear hfz36_0
      try clear hfz36_1
      try clear hfz41_0
      try clear hfz41_1
      try clear p2
      obtain ⟨kq, x71_29, rfl, HA, HJ29, HO_10, BK224, HB⟩ := hcut
      cases kq with
      | zero => exact absurd HA.out (by simp [cobblelaw07_FlatKept.j1])
      | succ kj29 =>
       have H := HA.out
       clear HA
       simp only [cobblelaw07_FlatKept.j1] at H
       by_cases c48 : x71_29 = true
       ·subst c48
        have H1 : (some false) = some r := by rw [if_pos rfl] at H; exact H
        clear H
        have H := H1
        clear H1
        obtain rfl := Option.some.inj H
        go_wp2
        go_ret
        exact ⟨by first | rfl | (simp [errW_none, errW_some] <;> rfl) | (simp [*, errW_none, errW_some] <;> rfl), by repeat (first | (with_reducible first | exact HB.out | apply below_alloc | apply pw_below_drewN | apply below_drew1 | refine below_set ?_ GE224.out) | exact HB.out)⟩
       ·replace c48 := Bool.eq_false_iff.mpr c48
        subst c48
        have H1 : (if t249 = 0 then (some ((t256.length : Int) == 0)) else (if t249 = 12 then (if t259 = 0 then ((cobblebase_Within.f (t256.length : Int) 1 (l0_0.length : Int)).bind fun t260 => (cobblelaw07_FlatKept.j2 kj29 a1 t256 (!t260) l0_0 l0_1)) else (cobblelaw07_FlatKept.j2 kj29 a1 t256 true l0_0 l0_1)) else (cobblelaw07_FlatKept.j2 kj29 a1 t256 true l0_0 l0_1))) = some r := by rw [if_neg (show ¬ (false = true) by decide)] at H; exact H
        clear H
        have H := H1
        clear H1
        by_cases c49 : t249 = 0
        ·rw [if_pos c49] at H
         have c49b0 : (t249 == 0) = true := beq_iff_eq.mpr c49
         have c49b1 : (t249 != 0) = false := bne_eq_false_iff_eq.mpr c49
         clear c49
         obtain rfl := Option.some.inj H
         obtain ⟨Ao50, co50, eo50⟩ := Kd.R_slice HO_10.out
         subst eo50
         go_wp2
         go_ret
         exact ⟨by first | rfl | (simp [errW_none, errW_some] <;> rfl) | (simp [*, errW_none, errW_some] <;> rfl), by repeat (first | (with_reducible first | exact HB.out | apply below_alloc | apply pw_below_drewN | apply below_drew1 | refine below_set ?_ GE224.out) | exact HB.out)⟩
        ·rw [if_neg c49] at H
         have c49b0 : (t249 == 0) = false := beq_eq_false_iff_ne.mpr c49
         have c49b1 : (t249 != 0) = true := bne_iff_ne.mpr c49
         have HC51 := Aside0.mk H
         clear H
         go_upto_region 12 with (fail)
         go_cut [91] (fun v91 wc => ∃ (kq : Nat) (x91_50 : Bool), v91 = .bool x91_50 ∧ Aside0 (cobblelaw07_FlatKept.j2 kq a1 t256 x91_50 l0_0 l0_1 = some r) ∧ Aside0 (kq ≤ kj29) ∧ Aside0 (Kd.R (Kd.int .i64) 3 wc w.heap.size (fun _ => True) v257 t256) ∧ Aside0 (wc.heap[gb224]? = some (.cells #[(.slice A0_0 l0_0.length c0_0), (.slice A0_1 l0_1.length c0_1)] 25 (0, 0))) ∧ Aside0 (Below w.heap.size w wc))
         case first =>
          have H := HC51.out
          clear HC51
          by_cases c52 : t249 = 12
          ·rw [if_pos c52] at H
           have c52b0 : (t249 == 12) = true := beq_iff_eq.mpr c52
           have c52b1 : (t249 != 12) = false := bne_eq_false_iff_eq.mpr c52
           clear c52
           (first | rw [c52b0] | (simp only [i64_w, i32_w]; rw [c52b0]) | skip)
           by_cases c53 : t259 = 0
           ·rw [if_pos c53] at H
            have c53b0 : (t259 == 0) = true := beq_iff_eq.mpr c53
            have c53b1 : (t259 != 0) = false := bne_eq_false_iff_eq.mpr c53
            clear c53
            replace H := Option.bind_eq_some_iff.mp H
            obtain ⟨t260, A540, H⟩ := H
            replace H : (cobblelaw07_FlatKept.j2 kj29 a1 t256 (!t260) l0_0 l0_1) = some r := H
            have A54 := Aside0.mk A540
            clear A540
            have H' := Aside0.mk H
            clear H
            obtain ⟨Ao55, co55, eo55⟩ := Kd.R_slice HO_10.out
            subst eo55
            have hcz56_0 : wc.cell? ⟨gb224, 0, none⟩ = some (.slice A0_0 l0_0.length c0_0) := (blk_cell BK224.out 0).trans rfl
            have hcz56_1 : wc.cell? ⟨gb224, 1, none⟩ = some (.slice A0_1 l0_1.length c0_1) := (blk_cell BK224.out 1).trans rfl
            have hfz56_0 := blk_frozen BK224.out 0
            have hfz56_1 := blk_frozen BK224.out 1
            go_wp2_with (first | (go_at_call 9; (with_reducible refine (cobblebase_Within.calls (t256.length : Int) 1 (l0_0.length : Int) t260 _ A54.out).mono ?_); rintro e w' ⟨rfl, ⟨nd, rfl⟩⟩))
            go_meet
            case rel => exact ⟨_, (!t260), (by first | rfl | (simp; done) | (simp [*]; done)), H', ⟨by have := HJ4.out; have := HJ29.out; first | omega | exact Nat.le_refl _⟩, ⟨by (with_reducible repeat (first | apply Kd.R_alloc | apply Kd.R_drewN | apply Kd.R_drew)); exact HO_10.out⟩, ⟨by (with_reducible repeat (first | refine blk_drewN ?_ _ | refine blk_drew ?_ | refine blk_alloc ?_ _)); exact BK224.out⟩, ⟨by repeat (first | (with_reducible first | exact HB.out | apply below_alloc | apply pw_below_drewN | apply below_drew1 | refine below_set ?_ GE224.out) | exact HB.out)⟩⟩
           ·rw [if_neg c53] at H
            have c53b0 : (t259 == 0) = false := beq_eq_false_iff_ne.mpr c53
            have c53b1 : (t259 != 0) = true := bne_iff_ne.mpr c53
            have H' := Aside0.mk H
            clear H
            go_wp2
            go_meet
            case rel => exact ⟨_, (true), (by first | rfl | (simp; done) | (simp [*]; done)), H', ⟨by have := HJ4.out; have := HJ29.out; first | omega | exact Nat.le_refl _⟩, ⟨by (with_reducible repeat (first | apply Kd.R_alloc | apply Kd.R_drewN | apply Kd.R_drew)); exact HO_10.out⟩, ⟨by (with_reducible repeat (first | refine blk_drewN ?_ _ | refine blk_drew ?_ | refine blk_alloc ?_ _)); exact BK224.out⟩, ⟨by repeat (first | (with_reducible first | exact HB.out | apply below_alloc | apply pw_below_drewN | apply below_drew1 | refine below_set ?_ GE224.out) | exact HB.out)⟩⟩
          ·rw [if_neg c52] at H
           have c52b0 : (t249 == 12) = false := beq_eq_false_iff_ne.mpr c52
           have c52b1 : (t249 != 12) = true := bne_iff_ne.mpr c52
           (first | rw [c52b0] | (simp only [i64_w, i32_w]; rw [c52b0]) | skip)
           have H' := Aside0.mk H
           clear H
           go_wp2
           go_meet
           case rel => exact ⟨_, (true), (by first | rfl | (simp; done) | (simp [*]; done)), H', ⟨by have := HJ4.out; have := HJ29.out; first | omega | exact Nat.le_refl _⟩, ⟨by (with_reducible repeat (first | apply Kd.R_alloc | apply Kd.R_drewN | apply Kd.R_drew)); exact HO_10.out⟩, ⟨by (with_reducible repeat (first | refine blk_drewN ?_ _ | refine blk_drew ?_ | refine blk_alloc ?_ _)); exact BK224.out⟩, ⟨by repeat (first | (with_reducible first | exact HB.out | apply below_alloc | apply pw_below_drewN | apply below_drew1 | refine below_set ?_ GE224.out) | exact HB.out)⟩⟩
         case rest =>
          clear HC51
          try clear c1
          try clear c2
          try clear p2
          try clear c3
          try clear c4
          try clear c5
          try clear c6
          try clear c7
          try clear c9
          try clear c10
          try clear c11
          try clear c11b0
          try clear c11b1
          try clear c12
          try clear c13
          try clear c23
          try clear c46
          try clear c46b0
          try clear c46b1
          try clear c47
          try clear c47b0
          try clear c47b1
          try clear c47b2
          try clear c48
          try clear c49
          try clear c49b0
          try clear c49b1
          try clear c52
          try clear c52b0
          try clear c52b1
          try clear c53
          try clear c53b0
          try clear c53b1
          try clear hcz13_0
          try clear hcz13_1
          try clear hcz15_0
          try clear hcz15_1
          try clear hcz17_0
          try clear hcz17_1
          try clear hcz19_0
          try clear hcz19_1
          try clear hcz21_0
          try clear hcz21_1
          try clear hcz31_0
          try clear hcz31_1
          try clear hcz36_0
          try clear hcz36_1
          try clear hcz41_0
          try clear hcz41_1
          try clear hcz56_0
          try clear hcz56_1
          try clear hfz13_0
          try clear hfz13_1
          try clear hfz15_0
          try clear hfz15_1
          try clear hfz17_0
          try clear hfz17_1
          try clear hfz19_0
          try clear hfz19_1
          try clear hfz21_0
          try clear hfz21_1
          try clear hfz31_0
          try clear hfz31_1
          try clear hfz36_0
          try clear hfz36_1
          try clear hfz41_0
          try clear hfz41_1
          try clear hfz56_0
          try clear hfz56_1
          try clear p2
          obtain ⟨kq, x91_50, rfl, HA, HJ50, HO_10, BK224, HB⟩ := hcut
          cases kq with
          | zero => exact absurd HA.out (by simp [cobblelaw07_FlatKept.j2])
          | succ kj50 =>
           have H := HA.out
           clear HA
           simp only [cobblelaw07_FlatKept.j2] at H
           by_cases c57 : x91_50 = true
           ·subst c57
            have H1 : (some false) = some r := by rw [if_pos rfl] at H; exact H
            clear H
            have H := H1
            clear H1
            obtain rfl := Option.some.inj H
            go_wp2
            go_ret
            exact ⟨by first | rfl | (simp [errW_none, errW_some] <;> rfl) | (simp [*, errW_none, errW_some] <;> rfl), by repeat (first | (with_reducible first | exact HB.out | apply below_alloc | apply pw_below_drewN | apply below_drew1 | refine below_set ?_ GE224.out) | exact HB.out)⟩
           ·replace c57 := Bool.eq_false_iff.mpr c57
            subst c57
            have H1 : (cobblelaw07_FlatKept.l0 kj50 a1 t256 (-1) l0_0 l0_1) = some r := by rw [if_neg (show ¬ (false = true) by decide)] at H; exact H
            clear H
            have H := H1
            clear H1
            have H' := Aside0.mk H
            clear H
            go_wp2
            go_loopg [12] kj50 (fun kq v12 w' => ∃ (x12_4 : Int), v12 = .int .i64 x12_4 ∧ Aside0 (cobblelaw07_FlatKept.l0 kq a1 t256 x12_4 l0_0 l0_1 = some r) ∧ Aside0 (kq ≤ kj50) ∧ Aside0 (Kd.R (Kd.int .i64) 3 w' w.heap.size (fun _ => True) v257 t256) ∧ Aside0 (w'.heap[gb224]? = some (.cells #[(.slice A0_0 l0_0.length c0_0), (.slice A0_1 l0_1.length c0_1)] 25 (0, 0))) ∧ Aside0 (Below w.heap.size w w'))
            case atStart => exact ⟨((-1)), (by first | rfl | (simp; done) | (simp [*]; done)), H', ⟨Nat.le_refl _⟩, ⟨by (with_reducible repeat (first | apply Kd.R_alloc | apply Kd.R_drewN | apply Kd.R_drew)); exact HO_10.out⟩, ⟨by (with_reducible repeat (first | refine blk_drewN ?_ _ | refine blk_drew ?_ | refine blk_alloc ?_ _)); exact BK224.out⟩, ⟨by repeat (first | (with_reducible first | exact HB.out | apply below_alloc | apply pw_below_drewN | apply below_drew1 | refine below_set ?_ GE224.out) | exact HB.out)⟩⟩
            case round => as_aux_lemma =>
             clear H'
             try clear c1
             try clear c2
             try clear p2
             try clear c3
             try clear c4
             try clear c5
             try clear c6
             try clear c7
             try clear c9
             try clear c10
             try clear c11
             try clear c11b0
             try clear c11b1
             try clear c12
             try clear c13
             try clear c23
             try clear c46
             try clear c46b0
             try clear c46b1
             try clear c47
             try clear c47b0
             try clear c47b1
             try clear c47b2
             try clear c48
             try clear c49
             try clear c49b0
             try clear c49b1
             try clear c52
             try clear c52b0
             try clear c52b1
             try clear c53
             try clear c53b0
             try clear c53b1
             try clear c57
             try clear hcz13_0
             try clear hcz13_1
             try clear hcz15_0
             try clear hcz15_1
             try clear hcz17_0
             try clear hcz17_1
             try clear hcz19_0
             try clear hcz19_1
             try clear hcz21_0
             try clear hcz21_1
             try clear hcz31_0
             try clear hcz31_1
             try clear hcz36_0
             try clear hcz36_1
             try clear hcz41_0
             try clear hcz41_1
             try clear hcz56_0
             try clear hcz56_1
             try clear hfz13_0
             try clear hfz13_1
             try clear hfz15_0
             try clear hfz15_1
             try clear hfz17_0
             try clear hfz17_1
             try clear hfz19_0
             try clear hfz19_1
             try clear hfz21_0
             try clear hfz21_1
             try clear hfz31_0
             try clear hfz31_1
             try clear hfz36_0
             try clear hfz36_1
             try clear hfz41_0
             try clear hfz41_1
             try clear hfz56_0
             try clear hfz56_1
             try clear p2
             obtain ⟨x12_4, rfl, HA, HK4, HO_10, BK224, HB⟩ := hrel
             cases gk with
             | zero => exact absurd HA.out (by simp [cobblelaw07_FlatKept.l0])
             | succ k4 =>
              have H := HA.out
              clear HA
              simp only [cobblelaw07_FlatKept.l0] at H
              by_cases c58 : x12_4 < (t256.length : Int)
              ·rw [if_pos c58] at H
               have c58b0 : decide (x12_4 < (t256.length : Int)) = true := decide_eq_true c58
               clear c58
               replace H := Option.bind_eq_some_iff.mp H
               obtain ⟨⟨t261, t264⟩, A590, H⟩ := H
               replace H : (cobblelaw07_FlatKept.l1 k4 a1 t256 x12_4 0 l0_0 l0_1 t264) = some r := H
               have A59 := Aside0.mk A590
               clear A590
               have H' := Aside0.mk H
               clear H
               obtain ⟨Ao60, co60, eo60⟩ := Kd.R_slice HO_10.out
               subst eo60
               have hcz61_0 : wr.cell? ⟨gb224, 0, none⟩ = some (.slice A0_0 l0_0.length c0_0) := (blk_cell BK224.out 0).trans rfl
               have hcz61_1 : wr.cell? ⟨gb224, 1, none⟩ = some (.slice A0_1 l0_1.length c0_1) := (blk_cell BK224.out 1).trans rfl
               have hfz61_0 := blk_frozen BK224.out 0
               have hfz61_1 := blk_frozen BK224.out 1
               go_wp2_with (first | ((with_reducible refine gate_callee (f := 11) rfl ?_); refine goesL_ (some 99) rfl rfl Try.func11 (by kernel_rfl) rfl #[.agg #[.slice A0_0 l0_0.length c0_0, .slice A0_1 l0_1.length c0_1]] rfl (by (try simp only [List.map_toArray, List.map_cons, List.map_nil]); first | done | rfl | (simp only [List.length_drop, List.length_take]; rfl)) ?_; (with_reducible refine (cobbleref07_CopyRules.calls k4 _ _ l0_0 _ _ l0_1 t261 t264 _ ?side1 ?side2 ?side3 ?side4 A59.out).mono ?_); (case side1 => repeat (first | exact (Kd.C_below HR0_0.out HB.out) | (with_reducible refine Kd.C_alloc ?_ _) | (with_reducible refine Kd.C_drewN ?_ _) | (with_reducible refine Kd.C_drew ?_))); (case side2 => exact HC0_0.out); (case side3 => repeat (first | exact (Kd.C_below HR0_1.out HB.out) | (with_reducible refine Kd.C_alloc ?_ _) | (with_reducible refine Kd.C_drewN ?_ _) | (with_reducible refine Kd.C_drew ?_))); (case side4 => exact HC0_1.out); rintro e w62 ⟨v262, v265, rfl, ho0, ho1, hb⟩; refine ⟨_, rfl, ?_⟩; have n0_ := Aside0.mk (Kd.R_elder' (by (with_reducible repeat (first | apply Kd.R_alloc | apply Kd.R_drewN | apply Kd.R_drew)); exact HO_10.out) (Kd.R_base ho0) hb); have n1_ := Aside0.mk (Kd.R_lower (Kd.R_new' ho0 (Kd.R_lt (by (with_reducible repeat (first | apply Kd.R_alloc | apply Kd.R_drewN | apply Kd.R_drew)); exact HO_10.out))) (below_size (by repeat (first | (with_reducible first | exact HB.out | apply below_alloc | apply pw_below_drewN | apply below_drew1 | refine below_set ?_ GE224.out) | exact HB.out)))); have n2_ := Aside0.mk (Kd.S_lower (Kd.S_new' ho1 (Kd.R_lt (by (with_reducible repeat (first | apply Kd.R_alloc | apply Kd.R_drewN | apply Kd.R_drew)); exact HO_10.out))) (below_size (by repeat (first | (with_reducible first | exact HB.out | apply below_alloc | apply pw_below_drewN | apply below_drew1 | refine below_set ?_ GE224.out) | exact HB.out)))); have n3_ := Aside0.mk (blk_below (g := gb224) (o := .cells #[.slice A0_0 l0_0.length c0_0, .slice A0_1 l0_1.length c0_1] 25 (0, 0)) (by (with_reducible repeat (first | refine blk_drewN ?_ _ | refine blk_drew ?_ | refine blk_alloc ?_ _)); exact BK224.out) hb); have n4_ := Aside0.mk (below_step (by repeat (first | (with_reducible first | exact HB.out | apply below_alloc | apply pw_below_drewN | apply below_drew1 | refine below_set ?_ GE224.out) | exact HB.out)) hb); clear HO_10; clear BK224; clear HB; have HO_10 := n0_; have HO263 := n1_; have HO266 := n2_; have BK224 := n3_; have HB := n4_; clear n0_ n1_ n2_ n3_ n4_; (try clear hb); (try clear hb2); (try clear hk); (try clear hi); (try clear ho0); (try clear ho1); obtain ⟨Ao63, co63, eo63⟩ := Kd.S_slice HO266.out; subst eo63) | ((with_reducible refine gate_dst (N := 13) rfl ?_); (try (refine gate_guard (by rfl) ?_; dsimp only)); refine box_event ?hg (N := 13) ?hd (cs := #[.slice none 0 0, .slice none 0 0]) (t := 25) ?hr ?_; (case hd => rfl); (case hg => rfl); (case hr => first | (go_simp; done) | (go_simp; rfl)); intro gb267 hg w64 hbox hb; have n0_ := Aside0.mk (Kd.R_below (by (with_reducible repeat (first | apply Kd.R_alloc | apply Kd.R_drewN | apply Kd.R_drew)); exact HO_10.out) hb); have n1_ := Aside0.mk (Kd.R_below (by (with_reducible repeat (first | apply Kd.R_alloc | apply Kd.R_drewN | apply Kd.R_drew)); exact HO263.out) hb); have n2_ := Aside0.mk (Kd.S_below (by (with_reducible repeat (first | apply Kd.S_alloc | apply Kd.S_drewN | apply Kd.S_drew)); exact HO266.out) hb); have n3_ := Aside0.mk (blk_below (g := gb224) (o := .cells #[.slice A0_0 l0_0.length c0_0, .slice A0_1 l0_1.length c0_1] 25 (0, 0)) (by (with_reducible repeat (first | refine blk_drewN ?_ _ | refine blk_drew ?_ | refine blk_alloc ?_ _)); exact BK224.out) hb); have n4_ := Aside0.mk (below_step (by repeat (first | (with_reducible first | exact HB.out | apply below_alloc | apply pw_below_drewN | apply below_drew1 | refine below_set ?_ GE224.out) | exact HB.out)) hb); have n5_ := Aside0.mk (hbox); have n6_ := Aside0.mk ((by rw [hg]; exact (below_size (by repeat (first | (with_reducible first | exact HB.out | apply below_alloc | apply pw_below_drewN | apply below_drew1 | refine below_set ?_ GE224.out) | exact HB.out))) : w.heap.size ≤ gb267)); have n7_ := Aside0.mk ((by rw [hg]; exact (below_size (by repeat (first | (with_reducible first | exact HB.out | apply below_alloc | apply pw_below_drewN | apply below_drew1 | refine below_set ?_ GE224.out) | exact HB.out))) : w.heap.size ≤ gb267)); have n8_ := Aside0.mk ((by rw [hg]; exact Nat.ne_of_lt (blk_lt (g := gb224) (o := .cells #[.slice A0_0 l0_0.length c0_0, .slice A0_1 l0_1.length c0_1] 25 (0, 0)) (by (with_reducible repeat (first | refine blk_drewN ?_ _ | refine blk_drew ?_ | refine blk_alloc ?_ _)); exact BK224.out)) : gb224 ≠ gb267)); have n9_ := Aside0.mk ((by rw [hg]; exact Nat.ne_of_gt (blk_lt (g := gb224) (o := .cells #[.slice A0_0 l0_0.length c0_0, .slice A0_1 l0_1.length c0_1] 25 (0, 0)) (by (with_reducible repeat (first | refine blk_drewN ?_ _ | refine blk_drew ?_ | refine blk_alloc ?_ _)); exact BK224.out)) : gb267 ≠ gb224)); clear HO_10; clear HO263; clear HO266; clear BK224; clear HB; have HO_10 := n0_; have HO263 := n1_; have HO266 := n2_; have BK224 := n3_; have HB := n4_; have BK267 := n5_; have GW267 := n6_; have GE267 := n7_; have NB224_267 := n8_; have NB267_224 := n9_; clear n0_ n1_ n2_ n3_ n4_ n5_ n6_ n7_ n8_ n9_; clear hb hbox hg; have hnb65 := NB267_224.out; have hnc65 := NB224_267.out; have hcz66_0 : w64.cell? ⟨gb267, 0, none⟩ = some (.slice none 0 0) := (blk_cell BK267.out 0).trans rfl; have hcz66_1 : w64.cell? ⟨gb267, 1, none⟩ = some (.slice none 0 0) := (blk_cell BK267.out 1).trans rfl; have hfz66_0 := blk_frozen BK267.out 0; have hfz66_1 := blk_frozen BK267.out 1))
               go_loopg [14] k4 (fun kq v14 w' => ∃ (x14_5 : Int) (x268001_5 : List (S39)) (u268001 : Value), v14 = .int .i64 x14_5 ∧ Aside0 (cobblelaw07_FlatKept.l1 kq a1 t256 x12_4 x14_5 l0_0 l0_1 x268001_5 = some r) ∧ Aside0 (kq ≤ k4) ∧ Aside0 (Kd.R (Kd.int .i64) 3 w' w.heap.size (fun _ => True) (.slice Ao60 t256.length co60) t256) ∧ Aside0 (Kd.S k39 39 w' w.heap.size (fun k_ => some k_ ≠ ((.slice Ao60 t256.length co60) : Value).ownBlock) u268001 x268001_5) ∧ Aside0 (w'.heap[gb224]? = some (.cells #[(.slice A0_0 l0_0.length c0_0), (.slice A0_1 l0_1.length c0_1)] 25 (0, 0))) ∧ Aside0 (w'.heap[gb267]? = some (.cells #[(.slice none 0 0), u268001] 25 (0, 0))) ∧ Aside0 (Below w.heap.size w w'))
               case atStart => exact ⟨(0), (t264), (.slice Ao63 t264.length co63), (by first | rfl | (simp; done) | (simp [*]; done)), H', ⟨Nat.le_refl _⟩, ⟨by (with_reducible repeat (first | apply Kd.R_alloc | apply Kd.R_drewN | apply Kd.R_drew)); exact Kd.R_mono (Kd.R_far (p := ⟨gb267, 1, none⟩) (Kd.R_far (p := ⟨gb267, 0, none⟩) (Kd.R_types HO_10.out BK267.out (by decide)) (fun _ hk => hk.2) (.slice none 0 0)) (fun _ hk => hk.2) (.slice Ao63 t264.length co63)) (fun _ hk => trivial)⟩, ⟨by (with_reducible repeat (first | apply Kd.S_alloc | apply Kd.S_drewN | apply Kd.S_drew)); exact Kd.S_mono (Kd.S_far (p := ⟨gb267, 1, none⟩) (Kd.S_far (p := ⟨gb267, 0, none⟩) (Kd.S_types HO266.out BK267.out (by decide)) (fun _ hk => hk.2) (.slice none 0 0)) (fun _ hk => hk.2) (.slice Ao63 t264.length co63)) (fun _ hk => hk.1.2)⟩, ⟨by (with_reducible repeat (first | refine blk_drewN ?_ _ | refine blk_drew ?_ | refine blk_alloc ?_ _)); refine blk_far ?_ NB224_267.out _; (with_reducible repeat (first | refine blk_drewN ?_ _ | refine blk_drew ?_ | refine blk_alloc ?_ _)); refine blk_far ?_ NB224_267.out _; (with_reducible repeat (first | refine blk_drewN ?_ _ | refine blk_drew ?_ | refine blk_alloc ?_ _)); exact BK224.out⟩, ⟨by (with_reducible repeat (first | refine blk_drewN ?_ _ | refine blk_drew ?_ | refine blk_alloc ?_ _)); refine blk_put (cs := #[.slice none 0 0, .slice none 0 0]) ?_ 1 _ rfl; (with_reducible repeat (first | refine blk_drewN ?_ _ | refine blk_drew ?_ | refine blk_alloc ?_ _)); refine blk_put (cs := #[.slice none 0 0, .slice none 0 0]) ?_ 0 _ rfl; (with_reducible repeat (first | refine blk_drewN ?_ _ | refine blk_drew ?_ | refine blk_alloc ?_ _)); exact BK267.out⟩, ⟨by repeat (first | (with_reducible first | exact HB.out | apply below_alloc | apply pw_below_drewN | apply below_drew1 | refine below_set ?_ GE224.out | refine below_set ?_ GE267.out) | exact HB.out)⟩⟩
               case round => as_aux_lemma =>
                clear H'
                try clear c1
                try clear c2
                try clear p2
                try clear c3
                try clear c4
                try clear c5
                try clear c6
                try clear c7
                try clear c9
                try clear c10
                try clear c11
                try clear c11b0
                try clear c11b1
                try clear c12
                try clear c13
                try clear c23
                try clear c46
                try clear c46b0
                try clear c46b1
                try clear c47
                try clear c47b0
                try clear c47b1
                try clear c47b2
                try clear c48
                try clear c49
                try clear c49b0
                try clear c49b1
                try clear c52
                try clear c52b0
                try clear c52b1
                try clear c53
                try clear c53b0
                try clear c53b1
                try clear c57
                try clear c58
                try clear c58b0
                try clear c65
                try clear hcz13_0
                try clear hcz13_1
                try clear hcz15_0
                try clear hcz15_1
                try clear hcz17_0
                try clear hcz17_1
                try clear hcz19_0
                try clear hcz19_1
                try clear hcz21_0
                try clear hcz21_1
                try clear hcz31_0
                try clear hcz31_1
                try clear hcz36_0
                try clear hcz36_1
                try clear hcz41_0
                try clear hcz41_1
                try clear hcz56_0
                try clear hcz56_1
                try clear hcz61_0
                try clear hcz61_1
                try clear hcz66_0
                try clear hcz66_1
                try clear hfz13_0
                try clear hfz13_1
                try clear hfz15_0
                try clear hfz15_1
                try clear hfz17_0
                try clear hfz17_1
                try clear hfz19_0
                try clear hfz19_1
                try clear hfz21_0
                try clear hfz21_1
                try clear hfz31_0
                try clear hfz31_1
                try clear hfz36_0
                try clear hfz36_1
                try clear hfz41_0
                try clear hfz41_1
                try clear hfz56_0
                try clear hfz56_1
                try clear hfz61_0
                try clear hfz61_1
                try clear hfz66_0
                try clear hfz66_1
                try clear p2
                obtain ⟨x14_5, x268001_5, u268001, rfl, HA, HK5, HO_10, HO_268001, BK224, BK267, HB⟩ := hrel
                cases gk with
                | zero => exact absurd HA.out (by simp [cobblelaw07_FlatKept.l1])
                | succ k5 =>
                 have H := HA.out
                 clear HA
                 simp only [cobblelaw07_FlatKept.l1] at H
                 by_cases c67 : x14_5 < (x268001_5.length : Int)
                 ·rw [if_pos c67] at H
                  have c67b0 : decide (x14_5 < (x268001_5.length : Int)) = true := decide_eq_true c67
                  clear c67
                  by_cases c68 : 0 ≤ x14_5
                  ·rw [if_pos c68] at H
                   have c68b0 : decide (0 ≤ x14_5) = true := decide_eq_true c68
                   clear c68
                   obtain ⟨y268, hy268⟩ : ∃ y_ : List (S39), y_ = (x268001_5.set (x14_5 : Int).toNat (⟨(⟨(rd_T39 x268001_5 x14_5).f0.f0, (rd_T39 x268001_5 x14_5).f0.f1⟩ : S37), ([] : List Int)⟩ : S39)) := ⟨_, rfl⟩
                   replace H : (cobblelaw07_FlatKept.l1 k5 a1 t256 x12_4 (wrap64 (x14_5 + 1)) l0_0 l0_1 y268) = some r := by first | (rw [hy268]; with_reducible exact H) | (have H2_ := (Option.bind_some _ _).symm.trans H; rw [hy268]; with_reducible exact H2_) | (have H2_ := (Option.bind_some _ _).symm.trans H; with_reducible exact H2_) | with_reducible exact H | (rw [hy268]; exact H) | exact H
                   have Ny268 := Aside0.mk hy268
                   clear hy268
                   have H' := Aside0.mk H
                   clear H
                   have hnb70 := NB267_224.out
                   have hnc70 := NB224_267.out
                   have hcz71_0 : wr.cell? ⟨gb267, 0, none⟩ = some (.slice none 0 0) := (blk_cell BK267.out 0).trans rfl
                   have hcz71_1 : wr.cell? ⟨gb267, 1, none⟩ = some (u268001) := (blk_cell BK267.out 1).trans rfl
                   have hfz71_0 := blk_frozen BK267.out 0
                   have hfz71_1 := blk_frozen BK267.out 1
                   obtain ⟨Ao72, co72, eo72⟩ := Kd.S_slice HO_268001.out
                   subst eo72
                   have p69 : 0 ≤ (x14_5 : Int) := of_decide_eq_true (by first | (with_reducible assumption) | assumption)
                   have q69 : (x14_5 : Int) < ((x268001_5.length : Int) : Int) := of_decide_eq_true (by first | (with_reducible assumption) | assumption)
                   obtain ⟨go69, co69, eo69, gb69, gl69, cl69, HG69⟩ := Kd.S_form HO_268001.out (by omega)
                   (first | cases eo69 | (injection eo69 with ea_ en_ ec_; (first | subst ea_ | (injection ea_ with ea_; subst ea_)); subst ec_; clear en_))
                   have GB69 := Aside0.mk gb69
                   have GG69 := Aside0.mk HG69
                   clear gb69 gl69 HG69
                   obtain ⟨_, ce69, hcl69, hM69, hcc69, hfr69, _, _⟩ := Kd.S_elem HO_268001.out z39 (x14_5 : Int) p69 q69
                   obtain ⟨ve69_2, rfl, ge69_2⟩ := k39_openM hM69
                   have hx69_0 : wr.cell? ⟨go69, (x14_5 : Int).toNat * 3, none⟩ = some (.int .i64 ((rd_T39 x268001_5 x14_5).f0.f0)) := hcc69 0 _ rfl
                   have hx69_1 : wr.cell? ⟨go69, (x14_5 : Int).toNat * 3 + 1, none⟩ = some (.int .i64 ((rd_T39 x268001_5 x14_5).f0.f1)) := hcc69 1 _ rfl
                   have hx69_2 : wr.cell? ⟨go69, (x14_5 : Int).toNat * 3 + 2, none⟩ = some (ve69_2) := hcc69 2 _ rfl
                   have hf69_0 : wr.frozen? ⟨go69, (x14_5 : Int).toNat * 3, none⟩ = false := hfr69 0
                   have hf69_1 : wr.frozen? ⟨go69, (x14_5 : Int).toNat * 3 + 1, none⟩ = false := hfr69 1
                   have hf69_2 : wr.frozen? ⟨go69, (x14_5 : Int).toNat * 3 + 2, none⟩ = false := hfr69 2
                   clear hcl69 hcc69 hfr69 hM69
                   replace p69 := eq_true p69
                   replace q69 := eq_true q69
                   have HX73 := Aside0.mk (show Kd.S k39 39 wr w.heap.size (fun k_ => ((fun k_ => some k_ ≠ (.slice Ao60 t256.length co60 : Value).ownBlock)) k_ ∧ ¬ ((fun _ => False)) k_) (.slice (some ⟨go69, 0, none⟩) x268001_5.length co72) x268001_5 from (by (with_reducible repeat (first | apply Kd.S_alloc | apply Kd.S_drewN | apply Kd.S_drew)); exact Kd.S_mono HO_268001.out (fun k_ hk => ⟨hk, fun e_ => e_⟩)))
                   obtain ⟨oki73, ce73, hcl73, hM73, hcc73, hfr73, hoki73, hH73⟩ := Kd.S_elem HX73.out z39 (x14_5 : Int) (of_decide_eq_true (by first | (with_reducible assumption) | assumption)) (by have h_ : (x14_5 : Int) < ((x268001_5.length : Int) : Int) := of_decide_eq_true (by first | (with_reducible assumption) | assumption); first | exact h_ | (have e_ := (Kd.S_reads' HO_268001.out).1; omega) | simpa using h_)
                   obtain ⟨ve73_2, rfl, ge73_2⟩ := k39_openM hM73
                   have HP73 := Kd.S_seg hH73 (of_decide_eq_true (by first | (with_reducible assumption) | assumption)) (by have h_ : (x14_5 : Int) < ((x268001_5.length : Int) : Int) := of_decide_eq_true (by first | (with_reducible assumption) | assumption); first | exact h_ | (have e_ := (Kd.S_reads' HO_268001.out).1; omega) | simpa using h_) (seg := [.slice none 0 0]) (j := 2) (show 3 ≤ 3 from by decide) (x' := (⟨(⟨(rd_T39 x268001_5 x14_5).f0.f0, (rd_T39 x268001_5 x14_5).f0.f1⟩ : S37), ([] : List Int)⟩ : S39)) (k39_mkM _ _ _ (⟨(⟨(rd_T39 x268001_5 x14_5).f0.f0, (rd_T39 x268001_5 x14_5).f0.f1⟩ : S37), ([] : List Int)⟩ : S39) (Kd.R_nil _ _ _ _ _)) (fun _ hk => hk) (fun k_ hk_ => hk_.elim)
                   have hx73_2 := hcc73 2 _ rfl
                   (try simp only [show (k39).sz = 3 from rfl, Nat.mul_one, Nat.add_zero] at hx73_2)
                   have hf73_2 := hfr73 2
                   (try simp only [show (k39).sz = 3 from rfl, Nat.mul_one, Nat.add_zero] at hf73_2)
                   clear hcl73 hcc73 hfr73 hM73 hoki73 hH73
                   go_wp2_with (first | ((with_reducible refine gate_store (t := 22) (p := 113) rfl ?_); refine store_event (t := 22) (p := 113) (v := ?vo_w74) (w1 := (wr.setCell ⟨go69, (x14_5 : Int).toNat * 3 + 2, none⟩ (.slice none 0 0))) ?hg ?ho ?hn ?hr ?_; (case ho => rfl); (case hg => rfl); (case hn => rfl); (case hr => first | (go_simp; done) | (go_simp; rfl)); intro w74 hw; have hg : wr.grownBy w74 (some go69) := (by rw [hw]; exact HP73.2); have hp_ : Kd.S k39 39 w74 w.heap.size (fun k_ => some k_ ≠ (.slice Ao60 t256.length co60 : Value).ownBlock) (.slice (some ⟨go69, 0, none⟩) x268001_5.length co72) y268 := (by rw [hw, Ny268.out]; exact HP73.1); clear HP73; have n0_ := Aside0.mk (Kd.R_over' (v := (.slice (some ⟨go69, 0, none⟩) x268001_5.length co72)) (by (with_reducible repeat (first | apply Kd.R_alloc | apply Kd.R_drewN | apply Kd.R_drew)); exact HO_10.out) (Kd.S_typed HO_268001.out) (by decide) hg); have n1_ := Aside0.mk (hp_); have n2_ := Aside0.mk (blk_grown (g := gb224) (o := .cells #[.slice A0_0 l0_0.length c0_0, .slice A0_1 l0_1.length c0_1] 25 (0, 0)) (by (with_reducible repeat (first | refine blk_drewN ?_ _ | refine blk_drew ?_ | refine blk_alloc ?_ _)); exact BK224.out) hg (Kd.S_ne HO_268001.out BK224.out (by decide))); have n3_ := Aside0.mk (blk_grown (g := gb267) (o := .cells #[.slice none 0 0, .slice (some ⟨go69, 0, none⟩) x268001_5.length co72] 25 (0, 0)) (by (with_reducible repeat (first | refine blk_drewN ?_ _ | refine blk_drew ?_ | refine blk_alloc ?_ _)); exact BK267.out) hg (Kd.S_ne HO_268001.out BK267.out (by decide))); have n4_ := Aside0.mk ((by rw [hw]; exact below_set (HB.out) GB69.out : Below w.heap.size w w74)); clear HO_10; clear HO_268001; clear BK224; clear BK267; clear HB; have HO_10 := n0_; have HO_268001 := n1_; have BK224 := n2_; have BK267 := n3_; have HB := n4_; clear n0_ n1_ n2_ n3_ n4_; clear hg hw hp_))
                   go_roundg k5
                   case measure => have := HJ4.out; have := HJ29.out; have := HJ50.out; have := HK4.out; have := HK5.out; omega
                   case rel => exact ⟨(wrap64 (x14_5 + 1)), (y268), (.slice (some ⟨go69, 0, none⟩) x268001_5.length co72), (by first | rfl | (simp; done) | (simp [*]; done)), H', ⟨by have := HJ4.out; have := HJ29.out; have := HJ50.out; have := HK4.out; have := HK5.out; omega⟩, ⟨by (with_reducible repeat (first | apply Kd.R_alloc | apply Kd.R_drewN | apply Kd.R_drew)); exact HO_10.out⟩, ⟨by (with_reducible repeat (first | apply Kd.S_alloc | apply Kd.S_drewN | apply Kd.S_drew)); exact HO_268001.out⟩, ⟨by (with_reducible repeat (first | refine blk_drewN ?_ _ | refine blk_drew ?_ | refine blk_alloc ?_ _)); exact BK224.out⟩, ⟨by (with_reducible repeat (first | refine blk_drewN ?_ _ | refine blk_drew ?_ | refine blk_alloc ?_ _)); exact BK267.out⟩, ⟨by repeat (first | (with_reducible first | exact HB.out | apply below_alloc | apply pw_below_drewN | apply below_drew1 | refine below_set ?_ GE224.out | refine below_set ?_ GE267.out) | exact HB.out)⟩⟩
                  ·rw [if_neg c68] at H
                   exact absurd H (by simp)
                 ·rw [if_neg c67] at H
                  have c67b0 : decide (x14_5 < (x268001_5.length : Int)) = false := decide_eq_false c67
                  clear c67
                  have H' := Aside0.mk H
                  clear H
                  have hnb75 := NB267_224.out
                  have hnc75 := NB224_267.out
                  have hcz76_0 : wr.cell? ⟨gb267, 0, none⟩ = some (.slice none 0 0) := (blk_cell BK267.out 0).trans rfl
                  have hcz76_1 : wr.cell? ⟨gb267, 1, none⟩ = some (u268001) := (blk_cell BK267.out 1).trans rfl
                  have hfz76_0 := blk_frozen BK267.out 0
                  have hfz76_1 := blk_frozen BK267.out 1
                  obtain ⟨Ao77, co77, eo77⟩ := Kd.S_slice HO_268001.out
                  subst eo77
                  go_wp2
                  go_loopg [15] k5 (fun kq v15 w' => ∃ (x15_6 : Int) (x268000_6 : List Int) (x268001_6 : List (S39)) (u268000 : Value) (u268001 : Value), v15 = .int .i64 x15_6 ∧ Aside0 (cobblelaw07_FlatKept.l2 kq a1 t256 x12_4 x15_6 l0_0 l0_1 x268000_6 x268001_6 = some r) ∧ Aside0 (kq ≤ k5) ∧ Aside0 (Kd.R (Kd.int .i64) 3 w' w.heap.size (fun k_ => some k_ ≠ (u268000 : Value).ownBlock) (.slice Ao60 t256.length co60) t256) ∧ Aside0 (Kd.R (Kd.int .i64) 3 w' w.heap.size (fun k_ => some k_ ≠ ((.slice Ao60 t256.length co60) : Value).ownBlock) u268000 x268000_6) ∧ Aside0 (Kd.S k39 39 w' w.heap.size (fun k_ => some k_ ≠ ((.slice Ao60 t256.length co60) : Value).ownBlock ∧ some k_ ≠ (u268000 : Value).ownBlock) u268001 x268001_6) ∧ Aside0 (w'.heap[gb224]? = some (.cells #[(.slice A0_0 l0_0.length c0_0), (.slice A0_1 l0_1.length c0_1)] 25 (0, 0))) ∧ Aside0 (w'.heap[gb267]? = some (.cells #[u268000, u268001] 25 (0, 0))) ∧ Aside0 (Below w.heap.size w w'))
                  case atStart => exact ⟨(0), (([] : List Int)), (x268001_5), (.slice none 0 0), (.slice Ao77 x268001_5.length co77), (by first | rfl | (simp; done) | (simp [*]; done)), H', ⟨Nat.le_refl _⟩, ⟨by (with_reducible repeat (first | apply Kd.R_alloc | apply Kd.R_drewN | apply Kd.R_drew)); exact Kd.R_mono HO_10.out (fun _ hk => (by simp [Value.ownBlock]))⟩, ⟨by first | exact Kd.R_nil _ _ _ _ _ | exact Kd.N_nil _ _ _ _ _ | exact Kd.V_nil _ _ _ _ _ | exact Kd.Q_nil _ _ _ _ _ | exact Kd.S_nil _ _ _ _ _⟩, ⟨by (with_reducible repeat (first | apply Kd.S_alloc | apply Kd.S_drewN | apply Kd.S_drew)); exact Kd.S_mono HO_268001.out (fun _ hk => ⟨hk, (by simp [Value.ownBlock])⟩)⟩, ⟨by (with_reducible repeat (first | refine blk_drewN ?_ _ | refine blk_drew ?_ | refine blk_alloc ?_ _)); exact BK224.out⟩, ⟨by (with_reducible repeat (first | refine blk_drewN ?_ _ | refine blk_drew ?_ | refine blk_alloc ?_ _)); exact BK267.out⟩, ⟨by repeat (first | (with_reducible first | exact HB.out | apply below_alloc | apply pw_below_drewN | apply below_drew1 | refine below_set ?_ GE224.out | refine below_set ?_ GE267.out) | exact HB.out)⟩⟩
                  case round => as_aux_lemma =>
                   clear H'
                   try clear c1
                   try clear c2
                   try clear p2
                   try clear c3
                   try clear c4
                   try clear c5
                   try clear c6
                   try clear p6
                   try clear q6
                   try clear hx6
                   try clear hf6
                   try clear c7
                   try clear hx7
                   try clear hf7
                   try clear c9
                   try clear c10
                   try clear c11
                   try clear c11b0
                   try clear c11b1
                   try clear c12
                   try clear c13
                   try clear c23
                   try clear c46
                   try clear c46b0
                   try clear c46b1
                   try clear c47
                   try clear c47b0
                   try clear c47b1
                   try clear c47b2
                   try clear c48
                   try clear c49
                   try clear c49b0
                   try clear c49b1
                   try clear c52
                   try clear c52b0
                   try clear c52b1
                   try clear c53
                   try clear c53b0
                   try clear c53b1
                   try clear c57
                   try clear c58
                   try clear c58b0
                   try clear p64
                   try clear c65
                   try clear c67
                   try clear c67b0
                   try clear c68
                   try clear c68b0
                   try clear c69
                   try clear p69
                   try clear q69
                   try clear hx69
                   try clear hf69
                   try clear c70
                   try clear c73
                   try clear hx73
                   try clear hf73
                   try clear c75
                   try clear hcz13_0
                   try clear hcz13_1
                   try clear hcz15_0
                   try clear hcz15_1
                   try clear hcz17_0
                   try clear hcz17_1
                   try clear hcz19_0
                   try clear hcz19_1
                   try clear hcz21_0
                   try clear hcz21_1
                   try clear hcz31_0
                   try clear hcz31_1
                   try clear hcz36_0
                   try clear hcz36_1
                   try clear hcz41_0
                   try clear hcz41_1
                   try clear hcz56_0
                   try clear hcz56_1
                   try clear hcz61_0
                   try clear hcz61_1
                   try clear hcz66_0
                   try clear hcz66_1
                   try clear hcz71_0
                   try clear hcz71_1
                   try clear hcz76_0
                   try clear hcz76_1
                   try clear hfz13_0
                   try clear hfz13_1
                   try clear hfz15_0
                   try clear hfz15_1
                   try clear hfz17_0
                   try clear hfz17_1
                   try clear hfz19_0
                   try clear hfz19_1
                   try clear hfz21_0
                   try clear hfz21_1
                   try clear hfz31_0
                   try clear hfz31_1
                   try clear hfz36_0
                   try clear hfz36_1
                   try clear hfz41_0
                   try clear hfz41_1
                   try clear hfz56_0
                   try clear hfz56_1
                   try clear hfz61_0
                   try clear hfz61_1
                   try clear hfz66_0
                   try clear hfz66_1
                   try clear hfz71_0
                   try clear hfz71_1
                   try clear hfz76_0
                   try clear hfz76_1
                   try clear hx69_0
                   try clear hx69_1
                   try clear hx69_2
                   try clear hx73_2
                   try clear p2
                   try clear p69
                   try clear q69
                   obtain ⟨x15_6, x268000_6, x268001_6, u268000, u268001, rfl, HA, HK6, HO_10, HO_268000, HO_268001, BK224, BK267, HB⟩ := hrel
                   cases gk with
                   | zero => exact absurd HA.out (by simp [cobblelaw07_FlatKept.l2])
                   | succ k6 =>
                    have H := HA.out
                    clear HA
                    simp only [cobblelaw07_FlatKept.l2] at H
                    by_cases c78 : x15_6 < (t256.length : Int)
                    ·rw [if_pos c78] at H
                     have c78b0 : decide (x15_6 < (t256.length : Int)) = true := decide_eq_true c78
                     clear c78
                     have HC79 := Aside0.mk H
                     clear H
                     go_upto_region 25 with (fail)
                     go_cut [145] (fun v145 wc => ∃ (kq : Nat) (x145_78 : Bool), v145 = .bool x145_78 ∧ Aside0 (cobblelaw07_FlatKept.j6 kq a1 t256 x12_4 x15_6 x145_78 l0_0 l0_1 x268000_6 x268001_6 = some r) ∧ Aside0 (kq ≤ k6) ∧ Aside0 (Kd.R (Kd.int .i64) 3 wc w.heap.size (fun k_ => some k_ ≠ (u268000 : Value).ownBlock) (.slice Ao60 t256.length co60) t256) ∧ Aside0 (Kd.R (Kd.int .i64) 3 wc w.heap.size (fun k_ => some k_ ≠ ((.slice Ao60 t256.length co60) : Value).ownBlock) u268000 x268000_6) ∧ Aside0 (Kd.S k39 39 wc w.heap.size (fun k_ => some k_ ≠ ((.slice Ao60 t256.length co60) : Value).ownBlock ∧ some k_ ≠ (u268000 : Value).ownBlock) u268001 x268001_6) ∧ Aside0 (wc.heap[gb224]? = some (.cells #[(.slice A0_0 l0_0.length c0_0), (.slice A0_1 l0_1.length c0_1)] 25 (0, 0))) ∧ Aside0 (wc.heap[gb267]? = some (.cells #[u268000, u268001] 25 (0, 0))) ∧ Aside0 (Below w.heap.size w wc))
                     case first =>
                      have H := HC79.out
                      clear HC79
                      by_cases c80 : 0 ≤ x15_6
                      ·rw [if_pos c80] at H
                       have c80b0 : decide (0 ≤ x15_6) = true := decide_eq_true c80
                       clear c80
                       (first | rw [c80b0] | (simp only [i64_w, i32_w]; rw [c80b0]) | skip)
                       replace H := Option.bind_eq_some_iff.mp H
                       obtain ⟨t270, A810, H⟩ := H
                       replace H : (if t270 = true then (if x15_6 > 0 then (if 0 ≤ (wrap64 (x15_6 - 1)) then (if (wrap64 (x15_6 - 1)) < (t256.length : Int) then (cobblelaw07_FlatKept.j6 k6 a1 t256 x12_4 x15_6 (decide ((rd t256 x15_6) ≤ (rd t256 (wrap64 (x15_6 - 1))))) l0_0 l0_1 x268000_6 x268001_6) else (none)) else (none)) else (cobblelaw07_FlatKept.j6 k6 a1 t256 x12_4 x15_6 false l0_0 l0_1 x268000_6 x268001_6)) else (cobblelaw07_FlatKept.j6 k6 a1 t256 x12_4 x15_6 true l0_0 l0_1 x268000_6 x268001_6)) = some r := H
                       have A81 := Aside0.mk A810
                       clear A810
                       by_cases c82 : t270 = true
                       ·subst c82
                        have H1 : (if x15_6 > 0 then (if 0 ≤ (wrap64 (x15_6 - 1)) then (if (wrap64 (x15_6 - 1)) < (t256.length : Int) then (cobblelaw07_FlatKept.j6 k6 a1 t256 x12_4 x15_6 (decide ((rd t256 x15_6) ≤ (rd t256 (wrap64 (x15_6 - 1))))) l0_0 l0_1 x268000_6 x268001_6) else (none)) else (none)) else (cobblelaw07_FlatKept.j6 k6 a1 t256 x12_4 x15_6 false l0_0 l0_1 x268000_6 x268001_6)) = some r := by rw [if_pos rfl] at H; exact H
                        clear H
                        have H := H1
                        clear H1
                        by_cases c83 : x15_6 > 0
                        ·rw [if_pos c83] at H
                         have c83b0 : decide (0 < x15_6) = true := decide_eq_true c83
                         clear c83
                         obtain ⟨ji84, hji84⟩ : ∃ j_ : Int, (wrap64 (x15_6 - 1)) = j_ := ⟨_, rfl⟩
                         replace H : (if 0 ≤ (ji84) then (if (ji84) < (t256.length : Int) then (cobblelaw07_FlatKept.j6 k6 a1 t256 x12_4 x15_6 (decide ((rd t256 x15_6) ≤ (rd t256 (ji84)))) l0_0 l0_1 x268000_6 x268001_6) else (none)) else (none)) = some r := by first | (rw [hji84] at H; exact H) | (simp only [hji84] at H ⊢; exact H)
                         (try rw [hji84] at A81)
                         have hji84w : (IntKind.i64.wrap (x15_6 - 1)) = ji84 := (i64_w _).trans hji84
                         by_cases c85 : 0 ≤ (ji84)
                         ·rw [if_pos c85] at H
                          have c85b0 : decide (0 ≤ (ji84)) = true := decide_eq_true c85
                          clear c85
                          by_cases c86 : (ji84) < (t256.length : Int)
                          ·rw [if_pos c86] at H
                           have c86b0 : decide ((ji84) < (t256.length : Int)) = true := decide_eq_true c86
                           clear c86
                           have H' := Aside0.mk H
                           clear H
                           try go_wp2
                           have n0_ := Aside0.mk (Kd.R_drew HO_10.out)
                           have n1_ := Aside0.mk (Kd.R_drew HO_268000.out)
                           have n2_ := Aside0.mk (Kd.S_drew HO_268001.out)
                           have n3_ := Aside0.mk (blk_drew BK224.out)
                           have n4_ := Aside0.mk (blk_drew BK267.out)
                           have n5_ := Aside0.mk (below_drew1 HB.out)
                           clear HO_10
                           clear HO_268000
                           clear HO_268001
                           clear BK224
                           clear BK267
                           clear HB
                           have HO_10 := n0_
                           have HO_268000 := n1_
                           have HO_268001 := n2_
                           have BK224 := n3_
                           have BK267 := n4_
                           have HB := n5_
                           clear n0_ n1_ n2_ n3_ n4_ n5_
                           have p269 : 0 ≤ (x15_6 : Int) := of_decide_eq_true (by first | (with_reducible assumption) | assumption)
                           have q269 : x15_6 < (t256.length : Int) := of_decide_eq_true (by first | (with_reducible assumption) | assumption)
                           obtain ⟨ad269, e269, hx269_0⟩ := Kd.at_int (Kd.R_reads' HO_10.out).2.2 x15_6 p269 q269
                           cases e269
                           replace p269 := eq_true p269
                           replace q269 := eq_true q269
                           have p271 : 0 ≤ (x15_6 : Int) := of_decide_eq_true (by first | (with_reducible assumption) | assumption)
                           have q271 : x15_6 < (t256.length : Int) := of_decide_eq_true (by first | (with_reducible assumption) | assumption)
                           obtain ⟨ad271, e271, hx271_0⟩ := Kd.at_int (Kd.R_reads' HO_10.out).2.2 x15_6 p271 q271
                           obtain rfl : ad269 = ad271 := (by injection e271)
                           replace p271 := eq_true p271
                           replace q271 := eq_true q271
                           have p272 : 0 ≤ ((ji84) : Int) := of_decide_eq_true (by first | (with_reducible assumption) | assumption)
                           have q272 : (ji84) < (t256.length : Int) := of_decide_eq_true (by first | (with_reducible assumption) | assumption)
                           obtain ⟨ad272, e272, hx272_0⟩ := Kd.at_int (Kd.R_reads' HO_10.out).2.2 (ji84) p272 q272
                           obtain rfl : ad269 = ad272 := (by injection e272)
                           replace p272 := eq_true p272
                           replace q272 := eq_true q272
                           refine start_ (n := 26) (S := fun w' => w'.cell? ⟨gb224, 0, none⟩ = some (.slice A0_0 l0_0.length c0_0) ∧ w'.cell? ⟨gb224, 1, none⟩ = some (.slice A0_1 l0_1.length c0_1) ∧ w'.cell? (ad269.add (x15_6).toNat) = some (.int .i64 (rd t256 x15_6)) ∧ w'.cell? (ad269.add (x15_6).toNat) = some (.int .i64 (rd t256 x15_6)) ∧ w'.cell? (ad269.add ((ji84)).toNat) = some (.int .i64 (rd t256 (ji84)))) (ds := []) #[false, false, false, false, false, false, false, false, false, false, false, false, false, false, false, false, false, false, false, false, false, false, false, false, false, false] (by kernel_rfl) rfl rfl ⟨(blk_cell BK224.out 0).trans rfl, (blk_cell BK224.out 1).trans rfl, hx269_0, hx271_0, hx272_0⟩ (fun hHeld => ?_); refine with_tabW cobblelaw07_FlatKept.tab25 cobblelaw07_FlatKept.bits25 (fun HT_ HW_ => ?_)
                           generalize wr.drew = w87 at HO_10 HO_268000 HO_268001 BK224 BK267 HB hx269_0 hx271_0 hx272_0 hHeld ⊢
                           refine pure_ (i := 0) (N := some 120) (v := ?_) (a' := ?_) #[true, false, false, false, false, false, false, false, false, false, false, false, false, false, false, false, false, false, false, false, false, false, false, false, false, false] rfl rfl (any_of HT_.out (by kernel_rfl)) (fun _ _ _ h => h) (Or.inl ⟨by rfl, ?_⟩) ?_ ?_
                           rotate_left
                           ·intro w'
                            go_simp
                            with_reducible rfl
                           rotate_left
                           ·simp only [Act.put, List.setIfInBounds_toArray, List.set_cons_zero, List.set_cons_succ, i64_w, i32_w]
                            rfl
                           refine pure_ (i := 1) (N := some 121) (v := ?_) (a' := ?_) #[true, true, false, false, false, false, false, false, false, false, false, false, false, false, false, false, false, false, false, false, false, false, false, false, false, false] rfl rfl (any_of HT_.out (by kernel_rfl)) (fun _ _ _ h => h) (Or.inl ⟨by rfl, ?_⟩) ?_ ?_
                           rotate_left
                           ·intro w'
                            go_simp
                            with_reducible rfl
                           rotate_left
                           ·simp only [Act.put, List.setIfInBounds_toArray, List.set_cons_zero, List.set_cons_succ, i64_w, i32_w]
                            rfl
                           refine pure_ (i := 2) (N := some 122) (v := ?_) (a' := ?_) #[true, true, true, false, false, false, false, false, false, false, false, false, false, false, false, false, false, false, false, false, false, false, false, false, false, false] rfl rfl (any_of HT_.out (by kernel_rfl)) (fun _ _ _ h => h) (Or.inl ⟨by rfl, ?_⟩) ?_ ?_
                           rotate_left
                           ·intro w'
                            go_simp
                            with_reducible rfl
                           rotate_left
                           ·simp only [Act.put, List.setIfInBounds_toArray, List.set_cons_zero, List.set_cons_succ, i64_w, i32_w]
                            rfl
                           refine pure_ (i := 4) (N := some 124) (v := ?_) (a' := ?_) #[true, true, true, false, true, false, false, false, false, false, false, false, false, false, false, false, false, false, false, false, false, false, false, false, false, false] rfl rfl (any_of HT_.out (by kernel_rfl)) (fun _ _ _ h => h) (Or.inl ⟨by rfl, ?_⟩) ?_ ?_
                           rotate_left
                           ·intro w'
                            go_simp
                            with_reducible rfl
                           rotate_left
                           ·simp only [Act.put, List.setIfInBounds_toArray, List.set_cons_zero, List.set_cons_succ, i64_w, i32_w]
                            rfl
                           refine take_ (i := 3) (N := some 123) (v := ?_) (a' := ?_) #[true, true, true, true, true, false, false, false, false, false, false, false, false, false, false, false, false, false, false, false, false, false, false, false, false, false] rfl rfl (take_ofW HT_.out HW_.out (by kernel_rfl)) (fun _ _ _ h => h) (Or.inl ⟨by rfl, ?_⟩) hHeld ?_ ?_
                           rotate_left
                           ·rintro w' ⟨s0, s1, s2, s3, s4⟩
                            go_simp
                            with_reducible rfl
                           rotate_left
                           ·simp only [Act.put, List.setIfInBounds_toArray, List.set_cons_zero, List.set_cons_succ, i64_w, i32_w]
                            rfl
                           refine take_ (i := 5) (N := some 125) (v := ?_) (a' := ?_) #[true, true, true, true, true, true, false, false, false, false, false, false, false, false, false, false, false, false, false, false, false, false, false, false, false, false] rfl rfl (take_ofW HT_.out HW_.out (by kernel_rfl)) (fun _ _ _ h => h) (Or.inl ⟨by rfl, ?_⟩) hHeld ?_ ?_
                           rotate_left
                           ·rintro w' ⟨s0, s1, s2, s3, s4⟩
                            go_simp
                            with_reducible rfl
                           rotate_left
                           ·simp only [Act.put, List.setIfInBounds_toArray, List.set_cons_zero, List.set_cons_succ, i64_w, i32_w]
                            rfl
                           refine pure_ (i := 6) (N := some 126) (v := ?_) (a' := ?_) #[true, true, true, true, true, true, true, false, false, false, false, false, false, false, false, false, false, false, false, false, false, false, false, false, false, false] rfl rfl (any_of HT_.out (by kernel_rfl)) (fun _ _ _ h => h) (Or.inl ⟨by rfl, ?_⟩) ?_ ?_
                           rotate_left
                           ·intro w'
                            go_simp
                            with_reducible rfl
                           rotate_left
                           ·simp only [Act.put, List.setIfInBounds_toArray, List.set_cons_zero, List.set_cons_succ, i64_w, i32_w]
                            rfl
                           refine pure_ (i := 7) (N := some 127) (v := ?_) (a' := ?_) #[true, true, true, true, true, true, true, true, false, false, false, false, false, false, false, false, false, false, false, false, false, false, false, false, false, false] rfl rfl (any_of HT_.out (by kernel_rfl)) (fun _ _ _ h => h) (Or.inl ⟨by rfl, ?_⟩) ?_ ?_
                           rotate_left
                           ·intro w'
                            go_simp
                            with_reducible rfl
                           rotate_left
                           ·simp only [Act.put, List.setIfInBounds_toArray, List.set_cons_zero, List.set_cons_succ, i64_w, i32_w]
                            rfl
                           refine one_ (i := 8) (N := some 128) #[true, true, true, true, true, true, true, true, true, false, false, false, false, false, false, false, false, false, false, false, false, false, false, false, false, false] rfl rfl (one_of HT_.out (by kernel_rfl)) (by decide) (fun K hK => ?_)
                           refine goes_ Try.func9 (by kernel_rfl) rfl #[.int .i64 (rd t256 x15_6), .int .i64 0, .int .i64 (wrap64 ((l0_0.length : Int) - 1))] (by rfl) rfl rfl (by (try simp only [List.map_toArray, List.map_cons, List.map_nil]); first | done | rfl | (simp only [List.length_drop, List.length_take]; rfl)) ?_
                           with_reducible refine (cobblebase_Within.calls (rd t256 x15_6) 0 (wrap64 ((l0_0.length : Int) - 1)) true _ A81.out).mono ?_
                           rintro e w' ⟨rfl, ⟨nd, rfl⟩⟩
                           refine ⟨_, rfl, ?_⟩
                           refine hK.out _ _ ⟨(blk_cell BK224.out 0).trans rfl, (blk_cell BK224.out 1).trans rfl, hHeld.2.2.1, hHeld.2.2.2.1, hHeld.2.2.2.2⟩ (fun hHeld => ?_)
                           clear hK K
                           refine norm_ (a' := ?_) ?_ ?_
                           rotate_left
                           ·show Act.put _ (some 128) _ = _
                            simp only [Act.put, List.setIfInBounds_toArray, List.set_cons_zero, List.set_cons_succ, i64_w, i32_w]
                            rfl
                           refine pure_ (i := 9) (N := some 129) (v := ?_) (a' := ?_) #[true, true, true, true, true, true, true, true, true, true, false, false, false, false, false, false, false, false, false, false, false, false, false, false, false, false] rfl rfl (any_of HT_.out (by kernel_rfl)) (fun _ _ _ h => h) (Or.inl ⟨by rfl, ?_⟩) ?_ ?_
                           rotate_left
                           ·intro w'
                            go_simp
                            with_reducible rfl
                           rotate_left
                           ·simp only [Act.put, List.setIfInBounds_toArray, List.set_cons_zero, List.set_cons_succ, i64_w, i32_w]
                            rfl
                           refine pure_ (i := 10) (N := some 130) (v := ?_) (a' := ?_) #[true, true, true, true, true, true, true, true, true, true, true, false, false, false, false, false, false, false, false, false, false, false, false, false, false, false] rfl rfl (any_of HT_.out (by kernel_rfl)) (fun _ _ _ h => h) (Or.inl ⟨by rfl, ?_⟩) ?_ ?_
                           rotate_left
                           ·intro w'
                            go_simp
                            with_reducible rfl
                           rotate_left
                           ·simp only [Act.put, List.setIfInBounds_toArray, List.set_cons_zero, List.set_cons_succ, i64_w, i32_w]
                            rfl
                           refine pure_ (i := 11) (N := some 131) (v := ?_) (a' := ?_) #[true, true, true, true, true, true, true, true, true, true, true, true, false, false, false, false, false, false, false, false, false, false, false, false, false, false] rfl rfl (any_of HT_.out (by kernel_rfl)) (fun _ _ _ h => h) (Or.inl ⟨by rfl, ?_⟩) ?_ ?_
                           rotate_left
                           ·intro w'
                            go_simp
                            with_reducible rfl
                           rotate_left
                           ·simp only [Act.put, List.setIfInBounds_toArray, List.set_cons_zero, List.set_cons_succ, i64_w, i32_w]
                            rfl
                           refine pure_ (i := 12) (N := some 132) (v := ?_) (a' := ?_) #[true, true, true, true, true, true, true, true, true, true, true, true, true, false, false, false, false, false, false, false, false, false, false, false, false, false] rfl rfl (any_of HT_.out (by kernel_rfl)) (fun _ _ _ h => h) (Or.inl ⟨by rfl, ?_⟩) ?_ ?_
                           rotate_left
                           ·intro w'
                            go_simp
                            with_reducible rfl
                           rotate_left
                           ·simp only [Act.put, List.setIfInBounds_toArray, List.set_cons_zero, List.set_cons_succ, i64_w, i32_w]
                            rfl
                           refine pure_ (i := 13) (N := some 133) (v := ?_) (a' := ?_) #[true, true, true, true, true, true, true, true, true, true, true, true, true, true, false, false, false, false, false, false, false, false, false, false, false, false] rfl rfl (any_of HT_.out (by kernel_rfl)) (fun _ _ _ h => h) (Or.inl ⟨by rfl, ?_⟩) ?_ ?_
                           rotate_left
                           ·intro w'
                            go_simp
                            with_reducible rfl
                           rotate_left
                           ·simp only [Act.put, List.setIfInBounds_toArray, List.set_cons_zero, List.set_cons_succ, i64_w, i32_w]
                            rfl
                           refine pure_ (i := 14) (N := some 134) (v := ?_) (a' := ?_) #[true, true, true, true, true, true, true, true, true, true, true, true, true, true, true, false, false, false, false, false, false, false, false, false, false, false] rfl rfl (any_of HT_.out (by kernel_rfl)) (fun _ _ _ h => h) (Or.inl ⟨by rfl, ?_⟩) ?_ ?_
                           rotate_left
                           ·intro w'
                            go_simp
                            with_reducible rfl
                           rotate_left
                           ·simp only [Act.put, List.setIfInBounds_toArray, List.set_cons_zero, List.set_cons_succ, i64_w, i32_w]
                            rfl
                           refine pure_ (i := 15) (N := some 135) (v := ?_) (a' := ?_) #[true, true, true, true, true, true, true, true, true, true, true, true, true, true, true, true, false, false, false, false, false, false, false, false, false, false] rfl rfl (any_of HT_.out (by kernel_rfl)) (fun _ _ _ h => h) (Or.inl ⟨by rfl, ?_⟩) ?_ ?_
                           rotate_left
                           ·intro w'
                            go_simp
                            with_reducible rfl
                           rotate_left
                           ·simp only [Act.put, List.setIfInBounds_toArray, List.set_cons_zero, List.set_cons_succ, i64_w, i32_w]
                            rfl
                           refine pure_ (i := 16) (N := some 136) (v := ?_) (a' := ?_) #[true, true, true, true, true, true, true, true, true, true, true, true, true, true, true, true, true, false, false, false, false, false, false, false, false, false] rfl rfl (any_of HT_.out (by kernel_rfl)) (fun _ _ _ h => h) (Or.inl ⟨by rfl, ?_⟩) ?_ ?_
                           rotate_left
                           ·intro w'
                            go_simp
                            with_reducible rfl
                           rotate_left
                           ·simp only [Act.put, List.setIfInBounds_toArray, List.set_cons_zero, List.set_cons_succ, i64_w, i32_w]
                            rfl
                           refine pure_ (i := 18) (N := some 138) (v := ?_) (a' := ?_) #[true, true, true, true, true, true, true, true, true, true, true, true, true, true, true, true, true, false, true, false, false, false, false, false, false, false] rfl rfl (any_of HT_.out (by kernel_rfl)) (fun _ _ _ h => h) (Or.inl ⟨by rfl, ?_⟩) ?_ ?_
                           rotate_left
                           ·intro w'
                            go_simp
                            with_reducible rfl
                           rotate_left
                           ·simp only [Act.put, List.setIfInBounds_toArray, List.set_cons_zero, List.set_cons_succ, i64_w, i32_w]
                            rfl
                           refine pure_ (i := 19) (N := some 139) (v := ?_) (a' := ?_) #[true, true, true, true, true, true, true, true, true, true, true, true, true, true, true, true, true, false, true, true, false, false, false, false, false, false] rfl rfl (any_of HT_.out (by kernel_rfl)) (fun _ _ _ h => h) (Or.inl ⟨by rfl, ?_⟩) ?_ ?_
                           rotate_left
                           ·intro w'
                            go_simp
                            with_reducible rfl
                           rotate_left
                           ·simp only [Act.put, List.setIfInBounds_toArray, List.set_cons_zero, List.set_cons_succ, i64_w, i32_w]
                            rfl
                           refine pure_ (i := 20) (N := some 140) (v := ?_) (a' := ?_) #[true, true, true, true, true, true, true, true, true, true, true, true, true, true, true, true, true, false, true, true, true, false, false, false, false, false] rfl rfl (any_of HT_.out (by kernel_rfl)) (fun _ _ _ h => h) (Or.inl ⟨by rfl, ?_⟩) ?_ ?_
                           rotate_left
                           ·intro w'
                            go_simp
                            with_reducible rfl
                           rotate_left
                           ·simp only [Act.put, List.setIfInBounds_toArray, List.set_cons_zero, List.set_cons_succ, i64_w, i32_w]
                            rfl
                           refine pure_ (i := 21) (N := some 141) (v := ?_) (a' := ?_) #[true, true, true, true, true, true, true, true, true, true, true, true, true, true, true, true, true, false, true, true, true, true, false, false, false, false] rfl rfl (any_of HT_.out (by kernel_rfl)) (fun _ _ _ h => h) (Or.inl ⟨by rfl, ?_⟩) ?_ ?_
                           rotate_left
                           ·intro w'
                            go_simp
                            with_reducible rfl
                           rotate_left
                           ·simp only [Act.put, List.setIfInBounds_toArray, List.set_cons_zero, List.set_cons_succ, i64_w, i32_w]
                            rfl
                           refine take_ (i := 17) (N := some 137) (v := ?_) (a' := ?_) #[true, true, true, true, true, true, true, true, true, true, true, true, true, true, true, true, true, true, true, true, true, true, false, false, false, false] rfl rfl (take_ofW HT_.out HW_.out (by kernel_rfl)) (fun _ _ _ h => h) (Or.inl ⟨by rfl, ?_⟩) hHeld ?_ ?_
                           rotate_left
                           ·rintro w' ⟨s0, s1, s2, s3, s4⟩
                            go_simp
                            with_reducible rfl
                           rotate_left
                           ·simp only [Act.put, List.setIfInBounds_toArray, List.set_cons_zero, List.set_cons_succ, i64_w, i32_w]
                            rfl
                           refine take_ (i := 22) (N := some 142) (v := ?_) (a' := ?_) #[true, true, true, true, true, true, true, true, true, true, true, true, true, true, true, true, true, true, true, true, true, true, true, false, false, false] rfl rfl (take_ofW HT_.out HW_.out (by kernel_rfl)) (fun _ _ _ h => h) (Or.inl ⟨by rfl, ?_⟩) hHeld ?_ ?_
                           rotate_left
                           ·rintro w' ⟨s0, s1, s2, s3, s4⟩
                            go_simp
                            with_reducible rfl
                           rotate_left
                           ·simp only [Act.put, List.setIfInBounds_toArray, List.set_cons_zero, List.set_cons_succ, i64_w, i32_w]
                            rfl
                           refine pure_ (i := 23) (N := some 143) (v := ?_) (a' := ?_) #[true, true, true, true, true, true, true, true, true, true, true, true, true, true, true, true, true, true, true, true, true, true, true, true, false, false] rfl rfl (any_of HT_.out (by kernel_rfl)) (fun _ _ _ h => h) (Or.inl ⟨by rfl, ?_⟩) ?_ ?_
                           rotate_left
                           ·intro w'
                            go_simp
                            with_reducible rfl
                           rotate_left
                           ·simp only [Act.put, List.setIfInBounds_toArray, List.set_cons_zero, List.set_cons_succ, i64_w, i32_w]
                            rfl
                           refine pure_ (i := 24) (N := some 144) (v := ?_) (a' := ?_) #[true, true, true, true, true, true, true, true, true, true, true, true, true, true, true, true, true, true, true, true, true, true, true, true, true, false] rfl rfl (any_of HT_.out (by kernel_rfl)) (fun _ _ _ h => h) (Or.inl ⟨by rfl, ?_⟩) ?_ ?_
                           rotate_left
                           ·intro w'
                            go_simp
                            with_reducible rfl
                           rotate_left
                           ·simp only [Act.put, List.setIfInBounds_toArray, List.set_cons_zero, List.set_cons_succ, i64_w, i32_w]
                            rfl
                           refine pure_ (i := 25) (N := some 145) (v := ?_) (a' := ?_) #[true, true, true, true, true, true, true, true, true, true, true, true, true, true, true, true, true, true, true, true, true, true, true, true, true, true] rfl rfl (any_of HT_.out (by kernel_rfl)) (fun _ _ _ h => h) (Or.inl ⟨by rfl, ?_⟩) ?_ ?_
                           rotate_left
                           ·intro w'
                            go_simp
                            with_reducible rfl
                           rotate_left
                           ·simp only [Act.put, List.setIfInBounds_toArray, List.set_cons_zero, List.set_cons_succ, i64_w, i32_w]
                            rfl
                           refine done_ (done_of HT_.out (by kernel_rfl)) ?_
                           try go_wp2
                           go_meet
                           case rel => exact ⟨_, (decide ((rd t256 x15_6) ≤ (rd t256 (ji84)))), (by first | rfl | (simp; done) | (simp only [← hji84] <;> (first | rfl | simp)) | (simp [*]; done)), H', ⟨by have := HJ4.out; have := HJ29.out; have := HJ50.out; have := HK4.out; have := HK5.out; have := HK6.out; first | omega | exact Nat.le_refl _⟩, ⟨by (with_reducible repeat (first | apply Kd.R_alloc | apply Kd.R_drewN | apply Kd.R_drew)); exact HO_10.out⟩, ⟨by (with_reducible repeat (first | apply Kd.R_alloc | apply Kd.R_drewN | apply Kd.R_drew)); exact HO_268000.out⟩, ⟨by (with_reducible repeat (first | apply Kd.S_alloc | apply Kd.S_drewN | apply Kd.S_drew)); exact HO_268001.out⟩, ⟨by (with_reducible repeat (first | refine blk_drewN ?_ _ | refine blk_drew ?_ | refine blk_alloc ?_ _)); exact BK224.out⟩, ⟨by (with_reducible repeat (first | refine blk_drewN ?_ _ | refine blk_drew ?_ | refine blk_alloc ?_ _)); exact BK267.out⟩, ⟨by repeat (first | (with_reducible first | exact HB.out | apply below_alloc | apply pw_below_drewN | apply below_drew1 | refine below_set ?_ GE224.out | refine below_set ?_ GE267.out) | exact HB.out)⟩⟩
                          ·rw [if_neg c86] at H
                           exact absurd H (by simp)
                         ·rw [if_neg c85] at H
                          exact absurd H (by simp)
                        ·rw [if_neg c83] at H
                         have c83b0 : decide (0 < x15_6) = false := decide_eq_false c83
                         clear c83
                         have H' := Aside0.mk H
                         clear H
                         try go_wp2
                         have n0_ := Aside0.mk (Kd.R_drew HO_10.out)
                         have n1_ := Aside0.mk (Kd.R_drew HO_268000.out)
                         have n2_ := Aside0.mk (Kd.S_drew HO_268001.out)
                         have n3_ := Aside0.mk (blk_drew BK224.out)
                         have n4_ := Aside0.mk (blk_drew BK267.out)
                         have n5_ := Aside0.mk (below_drew1 HB.out)
                         clear HO_10
                         clear HO_268000
                         clear HO_268001
                         clear BK224
                         clear BK267
                         clear HB
                         have HO_10 := n0_
                         have HO_268000 := n1_
                         have HO_268001 := n2_
                         have BK224 := n3_
                         have BK267 := n4_
                         have HB := n5_
                         clear n0_ n1_ n2_ n3_ n4_ n5_
                         have p269 : 0 ≤ (x15_6 : Int) := of_decide_eq_true (by first | (with_reducible assumption) | assumption)
                         have q269 : x15_6 < (t256.length : Int) := of_decide_eq_true (by first | (with_reducible assumption) | assumption)
                         obtain ⟨ad269, e269, hx269_0⟩ := Kd.at_int (Kd.R_reads' HO_10.out).2.2 x15_6 p269 q269
                         cases e269
                         replace p269 := eq_true p269
                         replace q269 := eq_true q269
                         refine start_ (n := 26) (S := fun w' => w'.cell? ⟨gb224, 0, none⟩ = some (.slice A0_0 l0_0.length c0_0) ∧ w'.cell? ⟨gb224, 1, none⟩ = some (.slice A0_1 l0_1.length c0_1) ∧ w'.cell? (ad269.add (x15_6).toNat) = some (.int .i64 (rd t256 x15_6))) (ds := []) #[false, false, false, false, false, false, false, false, false, false, false, false, false, false, false, false, false, false, false, false, false, false, false, false, false, false] (by kernel_rfl) rfl rfl ⟨(blk_cell BK224.out 0).trans rfl, (blk_cell BK224.out 1).trans rfl, hx269_0⟩ (fun hHeld => ?_); refine with_tabW cobblelaw07_FlatKept.tab25 cobblelaw07_FlatKept.bits25 (fun HT_ HW_ => ?_)
                         generalize wr.drew = w88 at HO_10 HO_268000 HO_268001 BK224 BK267 HB hx269_0 hHeld ⊢
                         refine pure_ (i := 0) (N := some 120) (v := ?_) (a' := ?_) #[true, false, false, false, false, false, false, false, false, false, false, false, false, false, false, false, false, false, false, false, false, false, false, false, false, false] rfl rfl (any_of HT_.out (by kernel_rfl)) (fun _ _ _ h => h) (Or.inl ⟨by rfl, ?_⟩) ?_ ?_
                         rotate_left
                         ·intro w'
                          go_simp
                          with_reducible rfl
                         rotate_left
                         ·simp only [Act.put, List.setIfInBounds_toArray, List.set_cons_zero, List.set_cons_succ, i64_w, i32_w]
                          rfl
                         refine pure_ (i := 1) (N := some 121) (v := ?_) (a' := ?_) #[true, true, false, false, false, false, false, false, false, false, false, false, false, false, false, false, false, false, false, false, false, false, false, false, false, false] rfl rfl (any_of HT_.out (by kernel_rfl)) (fun _ _ _ h => h) (Or.inl ⟨by rfl, ?_⟩) ?_ ?_
                         rotate_left
                         ·intro w'
                          go_simp
                          with_reducible rfl
                         rotate_left
                         ·simp only [Act.put, List.setIfInBounds_toArray, List.set_cons_zero, List.set_cons_succ, i64_w, i32_w]
                          rfl
                         refine pure_ (i := 2) (N := some 122) (v := ?_) (a' := ?_) #[true, true, true, false, false, false, false, false, false, false, false, false, false, false, false, false, false, false, false, false, false, false, false, false, false, false] rfl rfl (any_of HT_.out (by kernel_rfl)) (fun _ _ _ h => h) (Or.inl ⟨by rfl, ?_⟩) ?_ ?_
                         rotate_left
                         ·intro w'
                          go_simp
                          with_reducible rfl
                         rotate_left
                         ·simp only [Act.put, List.setIfInBounds_toArray, List.set_cons_zero, List.set_cons_succ, i64_w, i32_w]
                          rfl
                         refine pure_ (i := 4) (N := some 124) (v := ?_) (a' := ?_) #[true, true, true, false, true, false, false, false, false, false, false, false, false, false, false, false, false, false, false, false, false, false, false, false, false, false] rfl rfl (any_of HT_.out (by kernel_rfl)) (fun _ _ _ h => h) (Or.inl ⟨by rfl, ?_⟩) ?_ ?_
                         rotate_left
                         ·intro w'
                          go_simp
                          with_reducible rfl
                         rotate_left
                         ·simp only [Act.put, List.setIfInBounds_toArray, List.set_cons_zero, List.set_cons_succ, i64_w, i32_w]
                          rfl
                         refine take_ (i := 3) (N := some 123) (v := ?_) (a' := ?_) #[true, true, true, true, true, false, false, false, false, false, false, false, false, false, false, false, false, false, false, false, false, false, false, false, false, false] rfl rfl (take_ofW HT_.out HW_.out (by kernel_rfl)) (fun _ _ _ h => h) (Or.inl ⟨by rfl, ?_⟩) hHeld ?_ ?_
                         rotate_left
                         ·rintro w' ⟨s0, s1, s2⟩
                          go_simp
                          with_reducible rfl
                         rotate_left
                         ·simp only [Act.put, List.setIfInBounds_toArray, List.set_cons_zero, List.set_cons_succ, i64_w, i32_w]
                          rfl
                         refine take_ (i := 5) (N := some 125) (v := ?_) (a' := ?_) #[true, true, true, true, true, true, false, false, false, false, false, false, false, false, false, false, false, false, false, false, false, false, false, false, false, false] rfl rfl (take_ofW HT_.out HW_.out (by kernel_rfl)) (fun _ _ _ h => h) (Or.inl ⟨by rfl, ?_⟩) hHeld ?_ ?_
                         rotate_left
                         ·rintro w' ⟨s0, s1, s2⟩
                          go_simp
                          with_reducible rfl
                         rotate_left
                         ·simp only [Act.put, List.setIfInBounds_toArray, List.set_cons_zero, List.set_cons_succ, i64_w, i32_w]
                          rfl
                         refine pure_ (i := 6) (N := some 126) (v := ?_) (a' := ?_) #[true, true, true, true, true, true, true, false, false, false, false, false, false, false, false, false, false, false, false, false, false, false, false, false, false, false] rfl rfl (any_of HT_.out (by kernel_rfl)) (fun _ _ _ h => h) (Or.inl ⟨by rfl, ?_⟩) ?_ ?_
                         rotate_left
                         ·intro w'
                          go_simp
                          with_reducible rfl
                         rotate_left
                         ·simp only [Act.put, List.setIfInBounds_toArray, List.set_cons_zero, List.set_cons_succ, i64_w, i32_w]
                          rfl
                         refine pure_ (i := 7) (N := some 127) (v := ?_) (a' := ?_) #[true, true, true, true, true, true, true, true, false, false, false, false, false, false, false, false, false, false, false, false, false, false, false, false, false, false] rfl rfl (any_of HT_.out (by kernel_rfl)) (fun _ _ _ h => h) (Or.inl ⟨by rfl, ?_⟩) ?_ ?_
                         rotate_left
                         ·intro w'
                          go_simp
                          with_reducible rfl
                         rotate_left
                         ·simp only [Act.put, List.setIfInBounds_toArray, List.set_cons_zero, List.set_cons_succ, i64_w, i32_w]
                          rfl
                         refine one_ (i := 8) (N := some 128) #[true, true, true, true, true, true, true, true, true, false, false, false, false, false, false, false, false, false, false, false, false, false, false, false, false, false] rfl rfl (one_of HT_.out (by kernel_rfl)) (by decide) (fun K hK => ?_)
                         refine goes_ Try.func9 (by kernel_rfl) rfl #[.int .i64 (rd t256 x15_6), .int .i64 0, .int .i64 (wrap64 ((l0_0.length : Int) - 1))] (by rfl) rfl rfl (by (try simp only [List.map_toArray, List.map_cons, List.map_nil]); first | done | rfl | (simp only [List.length_drop, List.length_take]; rfl)) ?_
                         with_reducible refine (cobblebase_Within.calls (rd t256 x15_6) 0 (wrap64 ((l0_0.length : Int) - 1)) true _ A81.out).mono ?_
                         rintro e w' ⟨rfl, ⟨nd, rfl⟩⟩
                         refine ⟨_, rfl, ?_⟩
                         refine hK.out _ _ ⟨(blk_cell BK224.out 0).trans rfl, (blk_cell BK224.out 1).trans rfl, hHeld.2.2⟩ (fun hHeld => ?_)
                         clear hK K
                         refine norm_ (a' := ?_) ?_ ?_
                         rotate_left
                         ·show Act.put _ (some 128) _ = _
                          simp only [Act.put, List.setIfInBounds_toArray, List.set_cons_zero, List.set_cons_succ, i64_w, i32_w]
                          rfl
                         refine pure_ (i := 9) (N := some 129) (v := ?_) (a' := ?_) #[true, true, true, true, true, true, true, true, true, true, false, false, false, false, false, false, false, false, false, false, false, false, false, false, false, false] rfl rfl (any_of HT_.out (by kernel_rfl)) (fun _ _ _ h => h) (Or.inl ⟨by rfl, ?_⟩) ?_ ?_
                         rotate_left
                         ·intro w'
                          go_simp
                          with_reducible rfl
                         rotate_left
                         ·simp only [Act.put, List.setIfInBounds_toArray, List.set_cons_zero, List.set_cons_succ, i64_w, i32_w]
                          rfl
                         refine pure_ (i := 10) (N := some 130) (v := ?_) (a' := ?_) #[true, true, true, true, true, true, true, true, true, true, true, false, false, false, false, false, false, false, false, false, false, false, false, false, false, false] rfl rfl (any_of HT_.out (by kernel_rfl)) (fun _ _ _ h => h) (Or.inl ⟨by rfl, ?_⟩) ?_ ?_
                         rotate_left
                         ·intro w'
                          go_simp
                          with_reducible rfl
                         rotate_left
                         ·simp only [Act.put, List.setIfInBounds_toArray, List.set_cons_zero, List.set_cons_succ, i64_w, i32_w]
                          rfl
                         refine pure_ (i := 11) (N := some 131) (v := ?_) (a' := ?_) #[true, true, true, true, true, true, true, true, true, true, true, true, false, false, false, false, false, false, false, false, false, false, false, false, false, false] rfl rfl (any_of HT_.out (by kernel_rfl)) (fun _ _ _ h => h) (Or.inl ⟨by rfl, ?_⟩) ?_ ?_
                         rotate_left
                         ·intro w'
                          go_simp
                          with_reducible rfl
                         rotate_left
                         ·simp only [Act.put, List.setIfInBounds_toArray, List.set_cons_zero, List.set_cons_succ, i64_w, i32_w]
                          rfl
                         refine pure_ (i := 12) (N := some 132) (v := ?_) (a' := ?_) #[true, true, true, true, true, true, true, true, true, true, true, true, true, false, false, false, false, false, false, false, false, false, false, false, false, false] rfl rfl (any_of HT_.out (by kernel_rfl)) (fun _ _ _ h => h) (Or.inl ⟨by rfl, ?_⟩) ?_ ?_
                         rotate_left
                         ·intro w'
                          go_simp
                          with_reducible rfl
                         rotate_left
                         ·simp only [Act.put, List.setIfInBounds_toArray, List.set_cons_zero, List.set_cons_succ, i64_w, i32_w]
                          rfl
                         refine pure_ (i := 13) (N := some 133) (v := ?_) (a' := ?_) #[true, true, true, true, true, true, true, true, true, true, true, true, true, true, false, false, false, false, false, false, false, false, false, false, false, false] rfl rfl (any_of HT_.out (by kernel_rfl)) (fun _ _ _ h => h) (Or.inl ⟨by rfl, ?_⟩) ?_ ?_
                         rotate_left
                         ·intro w'
                          go_simp
                          with_reducible rfl
                         rotate_left
                         ·simp only [Act.put, List.setIfInBounds_toArray, List.set_cons_zero, List.set_cons_succ, i64_w, i32_w]
                          rfl
                         refine pure_ (i := 14) (N := some 134) (v := undef) (a' := ?_) #[true, true, true, true, true, true, true, true, true, true, true, true, true, true, true, false, false, false, false, false, false, false, false, false, false, false] rfl rfl (any_of HT_.out (by kernel_rfl)) (fun _ _ _ h => h) (Or.inr ⟨by rfl, rfl⟩) ?_ ?_
                         rotate_left
                         ·simp only [Act.put, List.setIfInBounds_toArray, List.set_cons_zero, List.set_cons_succ, i64_w, i32_w]
                          rfl
                         refine pure_ (i := 15) (N := some 135) (v := undef) (a' := ?_) #[true, true, true, true, true, true, true, true, true, true, true, true, true, true, true, true, false, false, false, false, false, false, false, false, false, false] rfl rfl (any_of HT_.out (by kernel_rfl)) (fun _ _ _ h => h) (Or.inr ⟨by rfl, rfl⟩) ?_ ?_
                         rotate_left
                         ·simp only [Act.put, List.setIfInBounds_toArray, List.set_cons_zero, List.set_cons_succ, i64_w, i32_w]
                          rfl
                         refine pure_ (i := 16) (N := some 136) (v := undef) (a' := ?_) #[true, true, true, true, true, true, true, true, true, true, true, true, true, true, true, true, true, false, false, false, false, false, false, false, false, false] rfl rfl (any_of HT_.out (by kernel_rfl)) (fun _ _ _ h => h) (Or.inr ⟨by rfl, rfl⟩) ?_ ?_
                         rotate_left
                         ·simp only [Act.put, List.setIfInBounds_toArray, List.set_cons_zero, List.set_cons_succ, i64_w, i32_w]
                          rfl
                         refine pure_ (i := 17) (N := some 137) (v := undef) (a' := ?_) #[true, true, true, true, true, true, true, true, true, true, true, true, true, true, true, true, true, true, false, false, false, false, false, false, false, false] rfl rfl (any_of HT_.out (by kernel_rfl)) (fun _ _ _ h => h) (Or.inr ⟨by rfl, rfl⟩) ?_ ?_
                         rotate_left
                         ·simp only [Act.put, List.setIfInBounds_toArray, List.set_cons_zero, List.set_cons_succ, i64_w, i32_w]
                          rfl
                         refine pure_ (i := 18) (N := some 138) (v := undef) (a' := ?_) #[true, true, true, true, true, true, true, true, true, true, true, true, true, true, true, true, true, true, true, false, false, false, false, false, false, false] rfl rfl (any_of HT_.out (by kernel_rfl)) (fun _ _ _ h => h) (Or.inr ⟨by rfl, rfl⟩) ?_ ?_
                         rotate_left
                         ·simp only [Act.put, List.setIfInBounds_toArray, List.set_cons_zero, List.set_cons_succ, i64_w, i32_w]
                          rfl
                         refine pure_ (i := 19) (N := some 139) (v := undef) (a' := ?_) #[true, true, true, true, true, true, true, true, true, true, true, true, true, true, true, true, true, true, true, true, false, false, false, false, false, false] rfl rfl (any_of HT_.out (by kernel_rfl)) (fun _ _ _ h => h) (Or.inr ⟨by rfl, rfl⟩) ?_ ?_
                         rotate_left
                         ·simp only [Act.put, List.setIfInBounds_toArray, List.set_cons_zero, List.set_cons_succ, i64_w, i32_w]
                          rfl
                         refine pure_ (i := 20) (N := some 140) (v := undef) (a' := ?_) #[true, true, true, true, true, true, true, true, true, true, true, true, true, true, true, true, true, true, true, true, true, false, false, false, false, false] rfl rfl (any_of HT_.out (by kernel_rfl)) (fun _ _ _ h => h) (Or.inr ⟨by rfl, rfl⟩) ?_ ?_
                         rotate_left
                         ·simp only [Act.put, List.setIfInBounds_toArray, List.set_cons_zero, List.set_cons_succ, i64_w, i32_w]
                          rfl
                         refine pure_ (i := 21) (N := some 141) (v := undef) (a' := ?_) #[true, true, true, true, true, true, true, true, true, true, true, true, true, true, true, true, true, true, true, true, true, true, false, false, false, false] rfl rfl (any_of HT_.out (by kernel_rfl)) (fun _ _ _ h => h) (Or.inr ⟨by rfl, rfl⟩) ?_ ?_
                         rotate_left
                         ·simp only [Act.put, List.setIfInBounds_toArray, List.set_cons_zero, List.set_cons_succ, i64_w, i32_w]
                          rfl
                         refine pure_ (i := 22) (N := some 142) (v := undef) (a' := ?_) #[true, true, true, true, true, true, true, true, true, true, true, true, true, true, true, true, true, true, true, true, true, true, true, false, false, false] rfl rfl (any_of HT_.out (by kernel_rfl)) (fun _ _ _ h => h) (Or.inr ⟨by rfl, rfl⟩) ?_ ?_
                         rotate_left
                         ·simp only [Act.put, List.setIfInBounds_toArray, List.set_cons_zero, List.set_cons_succ, i64_w, i32_w]
                          rfl
                         refine pure_ (i := 23) (N := some 143) (v := undef) (a' := ?_) #[true, true, true, true, true, true, true, true, true, true, true, true, true, true, true, true, true, true, true, true, true, true, true, true, false, false] rfl rfl (any_of HT_.out (by kernel_rfl)) (fun _ _ _ h => h) (Or.inr ⟨by rfl, rfl⟩) ?_ ?_
                         rotate_left
                         ·simp only [Act.put, List.setIfInBounds_toArray, List.set_cons_zero, List.set_cons_succ, i64_w, i32_w]
                          rfl
                         refine pure_ (i := 24) (N := some 144) (v := ?_) (a' := ?_) #[true, true, true, true, true, true, true, true, true, true, true, true, true, true, true, true, true, true, true, true, true, true, true, true, true, false] rfl rfl (any_of HT_.out (by kernel_rfl)) (fun _ _ _ h => h) (Or.inl ⟨by rfl, ?_⟩) ?_ ?_
                         rotate_left
                         ·intro w'
                          go_simp
                          with_reducible rfl
                         rotate_left
                         ·simp only [Act.put, List.setIfInBounds_toArray, List.set_cons_zero, List.set_cons_succ, i64_w, i32_w]
                          rfl
                         refine pure_ (i := 25) (N := some 145) (v := ?_) (a' := ?_) #[true, true, true, true, true, true, true, true, true, true, true, true, true, true, true, true, true, true, true, true, true, true, true, true, true, true] rfl rfl (any_of HT_.out (by kernel_rfl)) (fun _ _ _ h => h) (Or.inl ⟨by rfl, ?_⟩) ?_ ?_
                         rotate_left
                         ·intro w'
                          go_simp
                          with_reducible rfl
                         rotate_left
                         ·simp only [Act.put, List.setIfInBounds_toArray, List.set_cons_zero, List.set_cons_succ, i64_w, i32_w]
                          rfl
                         refine done_ (done_of HT_.out (by kernel_rfl)) ?_
                         try go_wp2
                         go_meet
                         case rel => exact ⟨_, (false), (by first | rfl | (simp; done) | (simp [*]; done)), H', ⟨by have := HJ4.out; have := HJ29.out; have := HJ50.out; have := HK4.out; have := HK5.out; have := HK6.out; first | omega | exact Nat.le_refl _⟩, ⟨by (with_reducible repeat (first | apply Kd.R_alloc | apply Kd.R_drewN | apply Kd.R_drew)); exact HO_10.out⟩, ⟨by (with_reducible repeat (first | apply Kd.R_alloc | apply Kd.R_drewN | apply Kd.R_drew)); exact HO_268000.out⟩, ⟨by (with_reducible repeat (first | apply Kd.S_alloc | apply Kd.S_drewN | apply Kd.S_drew)); exact HO_268001.out⟩, ⟨by (with_reducible repeat (first | refine blk_drewN ?_ _ | refine blk_drew ?_ | refine blk_alloc ?_ _)); exact BK224.out⟩, ⟨by (with_reducible repeat (first | refine blk_drewN ?_ _ | refine blk_drew ?_ | refine blk_alloc ?_ _)); exact BK267.out⟩, ⟨by repeat (first | (with_reducible first | exact HB.out | apply below_alloc | apply pw_below_drewN | apply below_drew1 | refine below_set ?_ GE224.out | refine below_set ?_ GE267.out) | exact HB.out)⟩⟩
                       ·replace c82 := Bool.eq_false_iff.mpr c82
                        subst c82
                        have H1 : (cobblelaw07_FlatKept.j6 k6 a1 t256 x12_4 x15_6 true l0_0 l0_1 x268000_6 x268001_6) = some r := by rw [if_neg (show ¬ (false = true) by decide)] at H; exact H
                        clear H
                        have H := H1
                        clear H1
                        have H' := Aside0.mk H
                        clear H
                        try go_wp2
                        have n0_ := Aside0.mk (Kd.R_drew HO_10.out)
                        have n1_ := Aside0.mk (Kd.R_drew HO_268000.out)
                        have n2_ := Aside0.mk (Kd.S_drew HO_268001.out)
                        have n3_ := Aside0.mk (blk_drew BK224.out)
                        have n4_ := Aside0.mk (blk_drew BK267.out)
                        have n5_ := Aside0.mk (below_drew1 HB.out)
                        clear HO_10
                        clear HO_268000
                        clear HO_268001
                        clear BK224
                        clear BK267
                        clear HB
                        have HO_10 := n0_
                        have HO_268000 := n1_
                        have HO_268001 := n2_
                        have BK224 := n3_
                        have BK267 := n4_
                        have HB := n5_
                        clear n0_ n1_ n2_ n3_ n4_ n5_
                        have p269 : 0 ≤ (x15_6 : Int) := of_decide_eq_true (by first | (with_reducible assumption) | assumption)
                        have q269 : x15_6 < (t256.length : Int) := of_decide_eq_true (by first | (with_reducible assumption) | assumption)
                        obtain ⟨ad269, e269, hx269_0⟩ := Kd.at_int (Kd.R_reads' HO_10.out).2.2 x15_6 p269 q269
                        cases e269
                        replace p269 := eq_true p269
                        replace q269 := eq_true q269
                        refine start_ (n := 26) (S := fun w' => w'.cell? ⟨gb224, 0, none⟩ = some (.slice A0_0 l0_0.length c0_0) ∧ w'.cell? ⟨gb224, 1, none⟩ = some (.slice A0_1 l0_1.length c0_1) ∧ w'.cell? (ad269.add (x15_6).toNat) = some (.int .i64 (rd t256 x15_6))) (ds := []) #[false, false, false, false, false, false, false, false, false, false, false, false, false, false, false, false, false, false, false, false, false, false, false, false, false, false] (by kernel_rfl) rfl rfl ⟨(blk_cell BK224.out 0).trans rfl, (blk_cell BK224.out 1).trans rfl, hx269_0⟩ (fun hHeld => ?_); refine with_tabW cobblelaw07_FlatKept.tab25 cobblelaw07_FlatKept.bits25 (fun HT_ HW_ => ?_)
                        generalize wr.drew = w89 at HO_10 HO_268000 HO_268001 BK224 BK267 HB hx269_0 hHeld ⊢
                        refine pure_ (i := 0) (N := some 120) (v := ?_) (a' := ?_) #[true, false, false, false, false, false, false, false, false, false, false, false, false, false, false, false, false, false, false, false, false, false, false, false, false, false] rfl rfl (any_of HT_.out (by kernel_rfl)) (fun _ _ _ h => h) (Or.inl ⟨by rfl, ?_⟩) ?_ ?_
                        rotate_left
                        ·intro w'
                         go_simp
                         with_reducible rfl
                        rotate_left
                        ·simp only [Act.put, List.setIfInBounds_toArray, List.set_cons_zero, List.set_cons_succ, i64_w, i32_w]
                         rfl
                        refine pure_ (i := 1) (N := some 121) (v := ?_) (a' := ?_) #[true, true, false, false, false, false, false, false, false, false, false, false, false, false, false, false, false, false, false, false, false, false, false, false, false, false] rfl rfl (any_of HT_.out (by kernel_rfl)) (fun _ _ _ h => h) (Or.inl ⟨by rfl, ?_⟩) ?_ ?_
                        rotate_left
                        ·intro w'
                         go_simp
                         with_reducible rfl
                        rotate_left
                        ·simp only [Act.put, List.setIfInBounds_toArray, List.set_cons_zero, List.set_cons_succ, i64_w, i32_w]
                         rfl
                        refine pure_ (i := 2) (N := some 122) (v := ?_) (a' := ?_) #[true, true, true, false, false, false, false, false, false, false, false, false, false, false, false, false, false, false, false, false, false, false, false, false, false, false] rfl rfl (any_of HT_.out (by kernel_rfl)) (fun _ _ _ h => h) (Or.inl ⟨by rfl, ?_⟩) ?_ ?_
                        rotate_left
                        ·intro w'
                         go_simp
                         with_reducible rfl
                        rotate_left
                        ·simp only [Act.put, List.setIfInBounds_toArray, List.set_cons_zero, List.set_cons_succ, i64_w, i32_w]
                         rfl
                        refine pure_ (i := 4) (N := some 124) (v := ?_) (a' := ?_) #[true, true, true, false, true, false, false, false, false, false, false, false, false, false, false, false, false, false, false, false, false, false, false, false, false, false] rfl rfl (any_of HT_.out (by kernel_rfl)) (fun _ _ _ h => h) (Or.inl ⟨by rfl, ?_⟩) ?_ ?_
                        rotate_left
                        ·intro w'
                         go_simp
                         with_reducible rfl
                        rotate_left
                        ·simp only [Act.put, List.setIfInBounds_toArray, List.set_cons_zero, List.set_cons_succ, i64_w, i32_w]
                         rfl
                        refine take_ (i := 3) (N := some 123) (v := ?_) (a' := ?_) #[true, true, true, true, true, false, false, false, false, false, false, false, false, false, false, false, false, false, false, false, false, false, false, false, false, false] rfl rfl (take_ofW HT_.out HW_.out (by kernel_rfl)) (fun _ _ _ h => h) (Or.inl ⟨by rfl, ?_⟩) hHeld ?_ ?_
                        rotate_left
                        ·rintro w' ⟨s0, s1, s2⟩
                         go_simp
                         with_reducible rfl
                        rotate_left
                        ·simp only [Act.put, List.setIfInBounds_toArray, List.set_cons_zero, List.set_cons_succ, i64_w, i32_w]
                         rfl
                        refine take_ (i := 5) (N := some 125) (v := ?_) (a' := ?_) #[true, true, true, true, true, true, false, false, false, false, false, false, false, false, false, false, false, false, false, false, false, false, false, false, false, false] rfl rfl (take_ofW HT_.out HW_.out (by kernel_rfl)) (fun _ _ _ h => h) (Or.inl ⟨by rfl, ?_⟩) hHeld ?_ ?_
                        rotate_left
                        ·rintro w' ⟨s0, s1, s2⟩
                         go_simp
                         with_reducible rfl
                        rotate_left
                        ·simp only [Act.put, List.setIfInBounds_toArray, List.set_cons_zero, List.set_cons_succ, i64_w, i32_w]
                         rfl
                        refine pure_ (i := 6) (N := some 126) (v := ?_) (a' := ?_) #[true, true, true, true, true, true, true, false, false, false, false, false, false, false, false, false, false, false, false, false, false, false, false, false, false, false] rfl rfl (any_of HT_.out (by kernel_rfl)) (fun _ _ _ h => h) (Or.inl ⟨by rfl, ?_⟩) ?_ ?_
                        rotate_left
                        ·intro w'
                         go_simp
                         with_reducible rfl
                        rotate_left
                        ·simp only [Act.put, List.setIfInBounds_toArray, List.set_cons_zero, List.set_cons_succ, i64_w, i32_w]
                         rfl
                        refine pure_ (i := 7) (N := some 127) (v := ?_) (a' := ?_) #[true, true, true, true, true, true, true, true, false, false, false, false, false, false, false, false, false, false, false, false, false, false, false, false, false, false] rfl rfl (any_of HT_.out (by kernel_rfl)) (fun _ _ _ h => h) (Or.inl ⟨by rfl, ?_⟩) ?_ ?_
                        rotate_left
                        ·intro w'
                         go_simp
                         with_reducible rfl
                        rotate_left
                        ·simp only [Act.put, List.setIfInBounds_toArray, List.set_cons_zero, List.set_cons_succ, i64_w, i32_w]
                         rfl
                        refine one_ (i := 8) (N := some 128) #[true, true, true, true, true, true, true, true, true, false, false, false, false, false, false, false, false, false, false, false, false, false, false, false, false, false] rfl rfl (one_of HT_.out (by kernel_rfl)) (by decide) (fun K hK => ?_)
                        refine goes_ Try.func9 (by kernel_rfl) rfl #[.int .i64 (rd t256 x15_6), .int .i64 0, .int .i64 (wrap64 ((l0_0.length : Int) - 1))] (by rfl) rfl rfl (by (try simp only [List.map_toArray, List.map_cons, List.map_nil]); first | done | rfl | (simp only [List.length_drop, List.length_take]; rfl)) ?_
                        with_reducible refine (cobblebase_Within.calls (rd t256 x15_6) 0 (wrap64 ((l0_0.length : Int) - 1)) false _ A81.out).mono ?_
                        rintro e w' ⟨rfl, ⟨nd, rfl⟩⟩
                        refine ⟨_, rfl, ?_⟩
                        refine hK.out _ _ ⟨(blk_cell BK224.out 0).trans rfl, (blk_cell BK224.out 1).trans rfl, hHeld.2.2⟩ (fun hHeld => ?_)
                        clear hK K
                        refine norm_ (a' := ?_) ?_ ?_
                        rotate_left
                        ·show Act.put _ (some 128) _ = _
                         simp only [Act.put, List.setIfInBounds_toArray, List.set_cons_zero, List.set_cons_succ, i64_w, i32_w]
                         rfl
                        refine pure_ (i := 9) (N := some 129) (v := ?_) (a' := ?_) #[true, true, true, true, true, true, true, true, true, true, false, false, false, false, false, false, false, false, false, false, false, false, false, false, false, false] rfl rfl (any_of HT_.out (by kernel_rfl)) (fun _ _ _ h => h) (Or.inl ⟨by rfl, ?_⟩) ?_ ?_
                        rotate_left
                        ·intro w'
                         go_simp
                         with_reducible rfl
                        rotate_left
                        ·simp only [Act.put, List.setIfInBounds_toArray, List.set_cons_zero, List.set_cons_succ, i64_w, i32_w]
                         rfl
                        refine pure_ (i := 10) (N := some 130) (v := ?_) (a' := ?_) #[true, true, true, true, true, true, true, true, true, true, true, false, false, false, false, false, false, false, false, false, false, false, false, false, false, false] rfl rfl (any_of HT_.out (by kernel_rfl)) (fun _ _ _ h => h) (Or.inl ⟨by rfl, ?_⟩) ?_ ?_
                        rotate_left
                        ·intro w'
                         go_simp
                         with_reducible rfl
                        rotate_left
                        ·simp only [Act.put, List.setIfInBounds_toArray, List.set_cons_zero, List.set_cons_succ, i64_w, i32_w]
                         rfl
                        refine pure_ (i := 11) (N := some 131) (v := undef) (a' := ?_) #[true, true, true, true, true, true, true, true, true, true, true, true, false, false, false, false, false, false, false, false, false, false, false, false, false, false] rfl rfl (any_of HT_.out (by kernel_rfl)) (fun _ _ _ h => h) (Or.inr ⟨by rfl, rfl⟩) ?_ ?_
                        rotate_left
                        ·simp only [Act.put, List.setIfInBounds_toArray, List.set_cons_zero, List.set_cons_succ, i64_w, i32_w]
                         rfl
                        refine pure_ (i := 12) (N := some 132) (v := undef) (a' := ?_) #[true, true, true, true, true, true, true, true, true, true, true, true, true, false, false, false, false, false, false, false, false, false, false, false, false, false] rfl rfl (any_of HT_.out (by kernel_rfl)) (fun _ _ _ h => h) (Or.inr ⟨by rfl, rfl⟩) ?_ ?_
                        rotate_left
                        ·simp only [Act.put, List.setIfInBounds_toArray, List.set_cons_zero, List.set_cons_succ, i64_w, i32_w]
                         rfl
                        refine pure_ (i := 13) (N := some 133) (v := undef) (a' := ?_) #[true, true, true, true, true, true, true, true, true, true, true, true, true, true, false, false, false, false, false, false, false, false, false, false, false, false] rfl rfl (any_of HT_.out (by kernel_rfl)) (fun _ _ _ h => h) (Or.inr ⟨by rfl, rfl⟩) ?_ ?_
                        rotate_left
                        ·simp only [Act.put, List.setIfInBounds_toArray, List.set_cons_zero, List.set_cons_succ, i64_w, i32_w]
                         rfl
                        refine pure_ (i := 14) (N := some 134) (v := undef) (a' := ?_) #[true, true, true, true, true, true, true, true, true, true, true, true, true, true, true, false, false, false, false, false, false, false, false, false, false, false] rfl rfl (any_of HT_.out (by kernel_rfl)) (fun _ _ _ h => h) (Or.inr ⟨by rfl, rfl⟩) ?_ ?_
                        rotate_left
                        ·simp only [Act.put, List.setIfInBounds_toArray, List.set_cons_zero, List.set_cons_succ, i64_w, i32_w]
                         rfl
                        refine pure_ (i := 15) (N := some 135) (v := undef) (a' := ?_) #[true, true, true, true, true, true, true, true, true, true, true, true, true, true, true, true, false, false, false, false, false, false, false, false, false, false] rfl rfl (any_of HT_.out (by kernel_rfl)) (fun _ _ _ h => h) (Or.inr ⟨by rfl, rfl⟩) ?_ ?_
                        rotate_left
                        ·simp only [Act.put, List.setIfInBounds_toArray, List.set_cons_zero, List.set_cons_succ, i64_w, i32_w]
                         rfl
                        refine pure_ (i := 16) (N := some 136) (v := undef) (a' := ?_) #[true, true, true, true, true, true, true, true, true, true, true, true, true, true, true, true, true, false, false, false, false, false, false, false, false, false] rfl rfl (any_of HT_.out (by kernel_rfl)) (fun _ _ _ h => h) (Or.inr ⟨by rfl, rfl⟩) ?_ ?_
                        rotate_left
                        ·simp only [Act.put, List.setIfInBounds_toArray, List.set_cons_zero, List.set_cons_succ, i64_w, i32_w]
                         rfl
                        refine pure_ (i := 17) (N := some 137) (v := undef) (a' := ?_) #[true, true, true, true, true, true, true, true, true, true, true, true, true, true, true, true, true, true, false, false, false, false, false, false, false, false] rfl rfl (any_of HT_.out (by kernel_rfl)) (fun _ _ _ h => h) (Or.inr ⟨by rfl, rfl⟩) ?_ ?_
                        rotate_left
                        ·simp only [Act.put, List.setIfInBounds_toArray, List.set_cons_zero, List.set_cons_succ, i64_w, i32_w]
                         rfl
                        refine pure_ (i := 18) (N := some 138) (v := undef) (a' := ?_) #[true, true, true, true, true, true, true, true, true, true, true, true, true, true, true, true, true, true, true, false, false, false, false, false, false, false] rfl rfl (any_of HT_.out (by kernel_rfl)) (fun _ _ _ h => h) (Or.inr ⟨by rfl, rfl⟩) ?_ ?_
                        rotate_left
                        ·simp only [Act.put, List.setIfInBounds_toArray, List.set_cons_zero, List.set_cons_succ, i64_w, i32_w]
                         rfl
                        refine pure_ (i := 19) (N := some 139) (v := undef) (a' := ?_) #[true, true, true, true, true, true, true, true, true, true, true, true, true, true, true, true, true, true, true, true, false, false, false, false, false, false] rfl rfl (any_of HT_.out (by kernel_rfl)) (fun _ _ _ h => h) (Or.inr ⟨by rfl, rfl⟩) ?_ ?_
                        rotate_left
                        ·simp only [Act.put, List.setIfInBounds_toArray, List.set_cons_zero, List.set_cons_succ, i64_w, i32_w]
                         rfl
                        refine pure_ (i := 20) (N := some 140) (v := undef) (a' := ?_) #[true, true, true, true, true, true, true, true, true, true, true, true, true, true, true, true, true, true, true, true, true, false, false, false, false, false] rfl rfl (any_of HT_.out (by kernel_rfl)) (fun _ _ _ h => h) (Or.inr ⟨by rfl, rfl⟩) ?_ ?_
                        rotate_left
                        ·simp only [Act.put, List.setIfInBounds_toArray, List.set_cons_zero, List.set_cons_succ, i64_w, i32_w]
                         rfl
                        refine pure_ (i := 21) (N := some 141) (v := undef) (a' := ?_) #[true, true, true, true, true, true, true, true, true, true, true, true, true, true, true, true, true, true, true, true, true, true, false, false, false, false] rfl rfl (any_of HT_.out (by kernel_rfl)) (fun _ _ _ h => h) (Or.inr ⟨by rfl, rfl⟩) ?_ ?_
                        rotate_left
                        ·simp only [Act.put, List.setIfInBounds_toArray, List.set_cons_zero, List.set_cons_succ, i64_w, i32_w]
                         rfl
                        refine pure_ (i := 22) (N := some 142) (v := undef) (a' := ?_) #[true, true, true, true, true, true, true, true, true, true, true, true, true, true, true, true, true, true, true, true, true, true, true, false, false, false] rfl rfl (any_of HT_.out (by kernel_rfl)) (fun _ _ _ h => h) (Or.inr ⟨by rfl, rfl⟩) ?_ ?_
                        rotate_left
                        ·simp only [Act.put, List.setIfInBounds_toArray, List.set_cons_zero, List.set_cons_succ, i64_w, i32_w]
                         rfl
                        refine pure_ (i := 23) (N := some 143) (v := undef) (a' := ?_) #[true, true, true, true, true, true, true, true, true, true, true, true, true, true, true, true, true, true, true, true, true, true, true, true, false, false] rfl rfl (any_of HT_.out (by kernel_rfl)) (fun _ _ _ h => h) (Or.inr ⟨by rfl, rfl⟩) ?_ ?_
                        rotate_left
                        ·simp only [Act.put, List.setIfInBounds_toArray, List.set_cons_zero, List.set_cons_succ, i64_w, i32_w]
                         rfl
                        refine pure_ (i := 24) (N := some 144) (v := undef) (a' := ?_) #[true, true, true, true, true, true, true, true, true, true, true, true, true, true, true, true, true, true, true, true, true, true, true, true, true, false] rfl rfl (any_of HT_.out (by kernel_rfl)) (fun _ _ _ h => h) (Or.inr ⟨by rfl, rfl⟩) ?_ ?_
                        rotate_left
                        ·simp only [Act.put, List.setIfInBounds_toArray, List.set_cons_zero, List.set_cons_succ, i64_w, i32_w]
                         rfl
                        refine pure_ (i := 25) (N := some 145) (v := ?_) (a' := ?_) #[true, true, true, true, true, true, true, true, true, true, true, true, true, true, true, true, true, true, true, true, true, true, true, true, true, true] rfl rfl (any_of HT_.out (by kernel_rfl)) (fun _ _ _ h => h) (Or.inl ⟨by rfl, ?_⟩) ?_ ?_
                        rotate_left
                        ·intro w'
                         go_simp
                         with_reducible rfl
                        rotate_left
                        ·simp only [Act.put, List.setIfInBounds_toArray, List.set_cons_zero, List.set_cons_succ, i64_w, i32_w]
                         rfl
                        refine done_ (done_of HT_.out (by kernel_rfl)) ?_
                        try go_wp2
                        go_meet
                        case rel => exact ⟨_, (true), (by first | rfl | (simp; done) | (simp [*]; done)), H', ⟨by have := HJ4.out; have := HJ29.out; have := HJ50.out; have := HK4.out; have := HK5.out; have := HK6.out; first | omega | exact Nat.le_refl _⟩, ⟨by (with_reducible repeat (first | apply Kd.R_alloc | apply Kd.R_drewN | apply Kd.R_drew)); exact HO_10.out⟩, ⟨by (with_reducible repeat (first | apply Kd.R_alloc | apply Kd.R_drewN | apply Kd.R_drew)); exact HO_268000.out⟩, ⟨by (with_reducible repeat (first | apply Kd.S_alloc | apply Kd.S_drewN | apply Kd.S_drew)); exact HO_268001.out⟩, ⟨by (with_reducible repeat (first | refine blk_drewN ?_ _ | refine blk_drew ?_ | refine blk_alloc ?_ _)); exact BK224.out⟩, ⟨by (with_reducible repeat (first | refine blk_drewN ?_ _ | refine blk_drew ?_ | refine blk_alloc ?_ _)); exact BK267.out⟩, ⟨by repeat (first | (with_reducible first | exact HB.out | apply below_alloc | apply pw_below_drewN | apply below_drew1 | refine below_set ?_ GE224.out | refine below_set ?_ GE267.out) | exact HB.out)⟩⟩
                      ·rw [if_neg c80] at H
                       exact absurd H (by simp)
                     case rest =>
                      clear HC79
                      try clear p2
                      try clear q2
                      try clear hx2
                      try clear p6
                      try clear c8
                      try clear c9
                      try clear p26
                      try clear q26
                      try clear hx26
                      try clear p64
                      try clear c80
                      try clear c82
                      try clear c83
                      try clear c83b0
                      try clear c85
                      try clear c86
                      try clear hx269_0
                      try clear p269
                      try clear q269
                      obtain ⟨kq, x145_78, rfl, HA, HJ78, HO_10, HO_268000, HO_268001, BK224, BK267, HB⟩ := hcut
                      cases kq with
                      | zero => exact absurd HA.out (by simp [cobblelaw07_FlatKept.j6])
                      | succ kj78 =>
                       have H := HA.out
                       clear HA
                       simp only [cobblelaw07_FlatKept.j6] at H
                       by_cases c90 : x145_78 = true
                       ·subst c90
                        have H1 : (some false) = some r := by rw [if_pos rfl] at H; exact H
                        clear H
                        have H := H1
                        clear H1
                        obtain rfl := Option.some.inj H
                        go_wp2
                        go_ret
                        exact ⟨by first | rfl | (simp [errW_none, errW_some] <;> rfl) | (simp [*, errW_none, errW_some] <;> rfl), by repeat (first | (with_reducible first | exact HB.out | apply below_alloc | apply pw_below_drewN | apply below_drew1 | refine below_set ?_ GE224.out | refine below_set ?_ GE267.out) | exact HB.out)⟩
                       ·replace c90 := Bool.eq_false_iff.mpr c90
                        subst c90
                        have H1 : (if x15_6 = x12_4 then (cobblelaw07_FlatKept.l2 kj78 a1 t256 x12_4 (wrap64 (x15_6 + 1)) l0_0 l0_1 x268000_6 x268001_6) else (if 0 ≤ x15_6 then (if x15_6 < (t256.length : Int) then (if 0 ≤ (rd t256 x15_6) then (if (rd t256 x15_6) < (l0_0.length : Int) then (if x268000_6.length < 17592186044416 then (cobblelaw07_FlatKept.l3 kj78 a1 t256 x12_4 x15_6 0 l0_0 l0_1 (x268000_6 ++ [rd l0_0 (rd t256 x15_6)]) x268001_6) else (none)) else (none)) else (none)) else (none)) else (none))) = some r := by rw [if_neg (show ¬ (false = true) by decide)] at H; exact H
                        clear H
                        have H := H1
                        clear H1
                        by_cases c91 : x15_6 = x12_4
                        ·rw [if_pos c91] at H
                         have c91b0 : (x15_6 == x12_4) = true := beq_iff_eq.mpr c91
                         have c91b1 : (x15_6 != x12_4) = false := bne_eq_false_iff_eq.mpr c91
                         clear c91
                         have H' := Aside0.mk H
                         clear H
                         go_wp2
                         go_roundg kj78
                         case measure => have := HJ4.out; have := HJ29.out; have := HJ50.out; have := HK4.out; have := HK5.out; have := HK6.out; have := HJ78.out; omega
                         case rel => exact ⟨(wrap64 (x15_6 + 1)), (x268000_6), (x268001_6), (u268000), (u268001), (by first | rfl | (simp; done) | (simp [*]; done)), H', ⟨by have := HJ4.out; have := HJ29.out; have := HJ50.out; have := HK4.out; have := HK5.out; have := HK6.out; have := HJ78.out; omega⟩, ⟨by (with_reducible repeat (first | apply Kd.R_alloc | apply Kd.R_drewN | apply Kd.R_drew)); exact HO_10.out⟩, ⟨by (with_reducible repeat (first | apply Kd.R_alloc | apply Kd.R_drewN | apply Kd.R_drew)); exact HO_268000.out⟩, ⟨by (with_reducible repeat (first | apply Kd.S_alloc | apply Kd.S_drewN | apply Kd.S_drew)); exact HO_268001.out⟩, ⟨by (with_reducible repeat (first | refine blk_drewN ?_ _ | refine blk_drew ?_ | refine blk_alloc ?_ _)); exact BK224.out⟩, ⟨by (with_reducible repeat (first | refine blk_drewN ?_ _ | refine blk_drew ?_ | refine blk_alloc ?_ _)); exact BK267.out⟩, ⟨by repeat (first | (with_reducible first | exact HB.out | apply below_alloc | apply pw_below_drewN | apply below_drew1 | refine below_set ?_ GE224.out | refine below_set ?_ GE267.out) | exact HB.out)⟩⟩
                        ·rw [if_neg c91] at H
                         have c91b0 : (x15_6 == x12_4) = false := beq_eq_false_iff_ne.mpr c91
                         have c91b1 : (x15_6 != x12_4) = true := bne_iff_ne.mpr c91
                         by_cases c92 : 0 ≤ x15_6
                         ·rw [if_pos c92] at H
                          have c92b0 : decide (0 ≤ x15_6) = true := decide_eq_true c92
                          clear c92
                          by_cases c93 : x15_6 < (t256.length : Int)
                          ·rw [if_pos c93] at H
                           have c93b0 : decide (x15_6 < (t256.length : Int)) = true := decide_eq_true c93
                           clear c93
                           by_cases c94 : 0 ≤ (rd t256 x15_6)
                           ·rw [if_pos c94] at H
                            have c94b0 : decide (0 ≤ (rd t256 x15_6)) = true := decide_eq_true c94
                            clear c94
                            by_cases c95 : (rd t256 x15_6) < (l0_0.length : Int)
                            ·rw [if_pos c95] at H
                             have c95b0 : decide ((rd t256 x15_6) < (l0_0.length : Int)) = true := decide_eq_true c95
                             clear c95
                             by_cases c96 : x268000_6.length < 17592186044416
                             ·rw [if_pos c96] at H
                              have LMc96 := Aside0.mk c96
                              clear c96
                              obtain ⟨y275, hy275⟩ : ∃ y_ : List Int, y_ = (x268000_6 ++ [rd l0_0 (rd t256 x15_6)]) := ⟨_, rfl⟩
                              replace H : (cobblelaw07_FlatKept.l3 kj78 a1 t256 x12_4 x15_6 0 l0_0 l0_1 y275 x268001_6) = some r := by first | (rw [hy275]; with_reducible exact H) | (have H2_ := (Option.bind_some _ _).symm.trans H; rw [hy275]; with_reducible exact H2_) | (have H2_ := (Option.bind_some _ _).symm.trans H; with_reducible exact H2_) | with_reducible exact H | (rw [hy275]; exact H) | exact H
                              have Ny275 := Aside0.mk hy275
                              clear hy275
                              have H' := Aside0.mk H
                              clear H
                              try go_wp2
                              have n0_ := Aside0.mk (Kd.R_drew HO_10.out)
                              have n1_ := Aside0.mk (Kd.R_drew HO_268000.out)
                              have n2_ := Aside0.mk (Kd.S_drew HO_268001.out)
                              have n3_ := Aside0.mk (blk_drew BK224.out)
                              have n4_ := Aside0.mk (blk_drew BK267.out)
                              have n5_ := Aside0.mk (below_drew1 HB.out)
                              clear HO_10
                              clear HO_268000
                              clear HO_268001
                              clear BK224
                              clear BK267
                              clear HB
                              have HO_10 := n0_
                              have HO_268000 := n1_
                              have HO_268001 := n2_
                              have BK224 := n3_
                              have BK267 := n4_
                              have HB := n5_
                              clear n0_ n1_ n2_ n3_ n4_ n5_
                              have p273 : 0 ≤ (x15_6 : Int) := of_decide_eq_true (by first | (with_reducible assumption) | assumption)
                              have q273 : x15_6 < (t256.length : Int) := of_decide_eq_true (by first | (with_reducible assumption) | assumption)
                              obtain ⟨ad273, e273, hx273_0⟩ := Kd.at_int (Kd.R_reads' HO_10.out).2.2 x15_6 p273 q273
                              cases e273
                              replace p273 := eq_true p273
                              replace q273 := eq_true q273
                              have p274 : 0 ≤ ((rd t256 x15_6) : Int) := of_decide_eq_true (by first | (with_reducible assumption) | assumption)
                              have q274 : (rd t256 x15_6) < (l0_0.length : Int) := of_decide_eq_true (by first | (with_reducible assumption) | assumption)
                              obtain ⟨ad274, e274, hx274_0⟩ := Kd.at_int HR0_0.out (rd t256 x15_6) p274 q274
                              have hw274_0 := hx274_0
                              cases e274
                              replace hx274_0 := (HB.out.cell (World.block_lt_of_cell? w _ hx274_0)).trans hx274_0
                              replace p274 := eq_true p274
                              replace q274 := eq_true q274
                              refine start_ (n := 14) (S := fun w' => w'.cell? ⟨gb267, 0, none⟩ = some (u268000) ∧ w'.cell? ⟨gb267, 1, none⟩ = some (u268001) ∧ w'.cell? ⟨gb224, 0, none⟩ = some (.slice (some ad274) l0_0.length c0_0) ∧ w'.cell? ⟨gb224, 1, none⟩ = some (.slice A0_1 l0_1.length c0_1) ∧ w'.cell? (ad273.add (x15_6).toNat) = some (.int .i64 (rd t256 x15_6)) ∧ w'.cell? (ad274.add ((rd t256 x15_6)).toNat) = some (.int .i64 (rd l0_0 (rd t256 x15_6)))) (ds := [11, 13]) #[false, false, false, false, false, false, false, false, false, false, false, false, false, false] (by kernel_rfl) rfl rfl ⟨(blk_cell BK267.out 0).trans rfl, (blk_cell BK267.out 1).trans rfl, (blk_cell BK224.out 0).trans rfl, (blk_cell BK224.out 1).trans rfl, hx273_0, ((HB.out.cell (World.block_lt_of_cell? w _ hw274_0)).trans hw274_0)⟩ (fun hHeld => ?_); refine with_tabW cobblelaw07_FlatKept.tab28 cobblelaw07_FlatKept.bits28 (fun HT_ HW_ => ?_)
                              generalize wc.drew = w97 at HO_10 HO_268000 HO_268001 BK224 BK267 HB hx273_0 hx274_0 hHeld ⊢
                              refine pure_ (i := 0) (N := some 149) (v := ?_) (a' := ?_) #[true, false, false, false, false, false, false, false, false, false, false, false, false, false] rfl rfl (any_of HT_.out (by kernel_rfl)) (fun _ _ _ h => h) (Or.inl ⟨by rfl, ?_⟩) ?_ ?_
                              rotate_left
                              ·intro w'
                               go_simp
                               with_reducible rfl
                              rotate_left
                              ·simp only [Act.put, List.setIfInBounds_toArray, List.set_cons_zero, List.set_cons_succ, i64_w, i32_w]
                               rfl
                              refine pure_ (i := 2) (N := some 151) (v := ?_) (a' := ?_) #[true, false, true, false, false, false, false, false, false, false, false, false, false, false] rfl rfl (any_of HT_.out (by kernel_rfl)) (fun _ _ _ h => h) (Or.inl ⟨by rfl, ?_⟩) ?_ ?_
                              rotate_left
                              ·intro w'
                               go_simp
                               with_reducible rfl
                              rotate_left
                              ·simp only [Act.put, List.setIfInBounds_toArray, List.set_cons_zero, List.set_cons_succ, i64_w, i32_w]
                               rfl
                              refine pure_ (i := 4) (N := some 153) (v := ?_) (a' := ?_) #[true, false, true, false, true, false, false, false, false, false, false, false, false, false] rfl rfl (any_of HT_.out (by kernel_rfl)) (fun _ _ _ h => h) (Or.inl ⟨by rfl, ?_⟩) ?_ ?_
                              rotate_left
                              ·intro w'
                               go_simp
                               with_reducible rfl
                              rotate_left
                              ·simp only [Act.put, List.setIfInBounds_toArray, List.set_cons_zero, List.set_cons_succ, i64_w, i32_w]
                               rfl
                              refine pure_ (i := 5) (N := some 154) (v := ?_) (a' := ?_) #[true, false, true, false, true, true, false, false, false, false, false, false, false, false] rfl rfl (any_of HT_.out (by kernel_rfl)) (fun _ _ _ h => h) (Or.inl ⟨by rfl, ?_⟩) ?_ ?_
                              rotate_left
                              ·intro w'
                               go_simp
                               with_reducible rfl
                              rotate_left
                              ·simp only [Act.put, List.setIfInBounds_toArray, List.set_cons_zero, List.set_cons_succ, i64_w, i32_w]
                               rfl
                              refine pure_ (i := 6) (N := some 155) (v := ?_) (a' := ?_) #[true, false, true, false, true, true, true, false, false, false, false, false, false, false] rfl rfl (any_of HT_.out (by kernel_rfl)) (fun _ _ _ h => h) (Or.inl ⟨by rfl, ?_⟩) ?_ ?_
                              rotate_left
                              ·intro w'
                               go_simp
                               with_reducible rfl
                              rotate_left
                              ·simp only [Act.put, List.setIfInBounds_toArray, List.set_cons_zero, List.set_cons_succ, i64_w, i32_w]
                               rfl
                              refine take_ (i := 1) (N := some 150) (v := ?_) (a' := ?_) #[true, true, true, false, true, true, true, false, false, false, false, false, false, false] rfl rfl (take_ofW HT_.out HW_.out (by kernel_rfl)) (fun _ _ _ h => h) (Or.inl ⟨by rfl, ?_⟩) hHeld ?_ ?_
                              rotate_left
                              ·rintro w' ⟨s0, s1, s2, s3, s4, s5⟩
                               go_simp
                               with_reducible rfl
                              rotate_left
                              ·simp only [Act.put, List.setIfInBounds_toArray, List.set_cons_zero, List.set_cons_succ, i64_w, i32_w]
                               rfl
                              refine take_ (i := 3) (N := some 152) (v := ?_) (a' := ?_) #[true, true, true, true, true, true, true, false, false, false, false, false, false, false] rfl rfl (take_ofW HT_.out HW_.out (by kernel_rfl)) (fun _ _ _ h => h) (Or.inl ⟨by rfl, ?_⟩) hHeld ?_ ?_
                              rotate_left
                              ·rintro w' ⟨s0, s1, s2, s3, s4, s5⟩
                               go_simp
                               with_reducible rfl
                              rotate_left
                              ·simp only [Act.put, List.setIfInBounds_toArray, List.set_cons_zero, List.set_cons_succ, i64_w, i32_w]
                               rfl
                              refine take_ (i := 7) (N := some 156) (v := ?_) (a' := ?_) #[true, true, true, true, true, true, true, true, false, false, false, false, false, false] rfl rfl (take_ofW HT_.out HW_.out (by kernel_rfl)) (fun _ _ _ h => h) (Or.inl ⟨by rfl, ?_⟩) hHeld ?_ ?_
                              rotate_left
                              ·rintro w' ⟨s0, s1, s2, s3, s4, s5⟩
                               go_simp
                               with_reducible rfl
                              rotate_left
                              ·simp only [Act.put, List.setIfInBounds_toArray, List.set_cons_zero, List.set_cons_succ, i64_w, i32_w]
                               rfl
                              refine pure_ (i := 8) (N := some 157) (v := ?_) (a' := ?_) #[true, true, true, true, true, true, true, true, true, false, false, false, false, false] rfl rfl (any_of HT_.out (by kernel_rfl)) (fun _ _ _ h => h) (Or.inl ⟨by rfl, ?_⟩) ?_ ?_
                              rotate_left
                              ·intro w'
                               go_simp
                               with_reducible rfl
                              rotate_left
                              ·simp only [Act.put, List.setIfInBounds_toArray, List.set_cons_zero, List.set_cons_succ, i64_w, i32_w]
                               rfl
                              refine take_ (i := 9) (N := some 158) (v := ?_) (a' := ?_) #[true, true, true, true, true, true, true, true, true, true, false, false, false, false] rfl rfl (take_ofW HT_.out HW_.out (by kernel_rfl)) (fun _ _ _ h => h) (Or.inl ⟨by rfl, ?_⟩) hHeld ?_ ?_
                              rotate_left
                              ·rintro w' ⟨s0, s1, s2, s3, s4, s5⟩
                               go_simp
                               with_reducible rfl
                              rotate_left
                              ·simp only [Act.put, List.setIfInBounds_toArray, List.set_cons_zero, List.set_cons_succ, i64_w, i32_w]
                               rfl
                              refine one_ (i := 10) (N := some 159) #[true, true, true, true, true, true, true, true, true, true, true, false, false, false] rfl rfl (one_of HT_.out (by kernel_rfl)) (by decide) (fun K hK => ?_)
                              refine value_ (w1 := ?_) (v := ?_) (by rfl) rfl ?_ ?_
                              rotate_left 2
                              ·go_simp
                               constructor
                               ·rfl
                               ·rfl
                              refine hK.out _ _ ⟨(blk_cell (blk_alloc BK267.out _) 0).trans rfl, (blk_cell (blk_alloc BK267.out _) 1).trans rfl, (blk_cell (blk_alloc BK224.out _) 0).trans rfl, (blk_cell (blk_alloc BK224.out _) 1).trans rfl, (World.cell?_alloc_lt _ _ _ (World.block_lt_of_cell? _ _ (hHeld.2.2.2.2.1))).trans (hHeld.2.2.2.2.1), (World.cell?_alloc_lt _ _ _ (World.block_lt_of_cell? _ _ (((HB.out.cell (World.block_lt_of_cell? w _ hw274_0)).trans hw274_0)))).trans (((HB.out.cell (World.block_lt_of_cell? w _ hw274_0)).trans hw274_0))⟩ (fun hHeld => ?_)
                              clear hK K
                              refine norm_ (a' := ?_) ?_ ?_
                              rotate_left
                              ·show Act.put _ (some 159) _ = _
                               simp only [Act.put, List.setIfInBounds_toArray, List.set_cons_zero, List.set_cons_succ, i64_w, i32_w]
                               rfl
                              refine last_ (i := 11) (N := some 160) #[true, true, true, true, true, true, true, true, true, true, true, true, false, false] rfl rfl (one_of HT_.out (by kernel_rfl)) (by decide) (fun K hK => ?_)
                              refine Kd.R_append_step (Kd.int .i64) (w0 := w) w.heap.size (by rfl) (.tmp 150) (.tmp 159) 22 3 (.int .i64 0) 8 rfl Try.underlying22 info3 rfl (by decide) (by omega) u268000 x268000_6 (rd l0_0 (rd t256 x15_6)) [.int .i64 (rd l0_0 (rd t256 x15_6))] (fun k_ => some k_ ≠ (.slice (some ad273) t256.length co60 : Value).ownBlock) (fun _ => False) rfl rfl ?aP (fun _ hk => hk.elim) ?aF ?aO ?aB ?aS ?aL ?_
                              (case aP => exact rfl)
                              (case aB => exact (by repeat (first | (with_reducible first | exact HB.out | apply below_alloc | apply pw_below_drewN | apply below_drew1 | refine below_set ?_ GE224.out | refine below_set ?_ GE267.out) | exact HB.out)))
                              (case aF => exact (fun k_ hk => Kd.fresh' (Kd.R_lt (by (with_reducible repeat (first | apply Kd.R_alloc | apply Kd.R_drewN | apply Kd.R_drew)); exact HO_10.out)) k_ hk))
                              (case aO => exact (by (with_reducible repeat (first | apply Kd.R_alloc | apply Kd.R_drewN | apply Kd.R_drew)); exact HO_268000.out))
                              (case aS => exact (below_size (by repeat (first | (with_reducible first | exact HB.out | apply below_alloc | apply pw_below_drewN | apply below_drew1 | refine below_set ?_ GE224.out | refine below_set ?_ GE267.out) | exact HB.out))))
                              (case aL => have := LMc96.out; omega)
                              intro v276 w98 ho hb hg hat
                              rw [← Ny275.out] at ho
                              have n0_ := Aside0.mk (Kd.R_after (ok := (fun _ => True)) (by (with_reducible repeat (first | apply Kd.R_alloc | apply Kd.R_drewN | apply Kd.R_drew)); exact Kd.R_mono HO_10.out (fun _ hk => ⟨trivial, hk⟩)) hg hat)
                              have n1_ := Aside0.mk (Kd.S_after (ok := (fun k_ => some k_ ≠ (.slice (some ad273) t256.length co60 : Value).ownBlock)) (by (with_reducible repeat (first | apply Kd.S_alloc | apply Kd.S_drewN | apply Kd.S_drew)); exact HO_268001.out) hg hat)
                              have n2_ := Aside0.mk (blk_grown (g := gb224) (o := .cells #[.slice (some ad274) l0_0.length c0_0, .slice A0_1 l0_1.length c0_1] 25 (0, 0)) (by (with_reducible repeat (first | refine blk_drewN ?_ _ | refine blk_drew ?_ | refine blk_alloc ?_ _)); exact BK224.out) hg (Kd.R_ne HO_268000.out BK224.out (by decide)))
                              have n3_ := Aside0.mk (blk_grown (g := gb267) (o := .cells #[u268000, u268001] 25 (0, 0)) (by (with_reducible repeat (first | refine blk_drewN ?_ _ | refine blk_drew ?_ | refine blk_alloc ?_ _)); exact BK267.out) hg (Kd.R_ne HO_268000.out BK267.out (by decide)))
                              have n4_ := Aside0.mk (hb)
                              have n5_ := Aside0.mk (ho)
                              clear HO_10
                              clear HO_268001
                              clear BK224
                              clear BK267
                              clear HB
                              clear HO_268000
                              have HO_10 := n0_
                              have HO_268001 := n1_
                              have BK224 := n2_
                              have BK267 := n3_
                              have HB := n4_
                              have HO277 := n5_
                              clear n0_ n1_ n2_ n3_ n4_ n5_
                              clear ho hb hg hat
                              obtain ⟨Ao99, co99, eo99⟩ := Kd.R_slice HO277.out
                              (first | subst eo99 | (injection eo99 with f1_ f2_ f3_; have f4_ := f1_.symm; have f5_ := f3_.symm; clear f1_ f2_ f3_; subst f4_; subst f5_))
                              refine hK.out _ _ ?_
                              clear hK K
                              refine norm_ (a' := ?_) ?_ ?_
                              rotate_left
                              ·show Act.put _ (some 160) _ = _
                               simp only [Act.put, List.setIfInBounds_toArray, List.set_cons_zero, List.set_cons_succ, i64_w, i32_w]
                               rfl
                              refine pure_ (i := 12) (N := some 161) (v := ?_) (a' := ?_) #[true, true, true, true, true, true, true, true, true, true, true, true, true, false] rfl rfl (any_of HT_.out (by kernel_rfl)) (fun _ _ _ h => h) (Or.inl ⟨by rfl, ?_⟩) ?_ ?_
                              rotate_left
                              ·intro w'
                               go_simp
                               with_reducible rfl
                              rotate_left
                              ·simp only [Act.put, List.setIfInBounds_toArray, List.set_cons_zero, List.set_cons_succ, i64_w, i32_w]
                               rfl
                              refine last_ (i := 13) (N := none) #[true, true, true, true, true, true, true, true, true, true, true, true, true, true] rfl rfl (one_of HT_.out (by kernel_rfl)) (by decide) (fun K hK => ?_)
                              have hs100 : w98.cell? ⟨gb267, 0, none⟩ = some (u268000) := (blk_cell BK267.out 0).trans rfl
                              have hfs100 := blk_frozen BK267.out 0
                              have hns100_0 := NB224_267.out
                              have hms100_0 := NB267_224.out
                              refine skip_ (w1 := ?_) (by rfl) rfl ?_ ?_
                              rotate_left
                              ·go_simp
                               rfl
                              refine hK.out _ _ ?_
                              clear hK K
                              refine done_ (done_of HT_.out (by kernel_rfl)) ?_
                              try go_wp2
                              go_loopg [16] kj78 (fun kq v16 w' => ∃ (x16_8 : Int) (x268001_8 : List (S39)) (u268001 : Value), v16 = .int .i64 x16_8 ∧ Aside0 (cobblelaw07_FlatKept.l3 kq a1 t256 x12_4 x15_6 x16_8 l0_0 l0_1 y275 x268001_8 = some r) ∧ Aside0 (kq ≤ kj78) ∧ Aside0 (Kd.R (Kd.int .i64) 3 w' w.heap.size (fun k_ => some k_ ≠ ((.slice Ao99 y275.length co99) : Value).ownBlock) (.slice (some ad273) t256.length co60) t256) ∧ Aside0 (Kd.R (Kd.int .i64) 3 w' w.heap.size (fun k_ => some k_ ≠ ((.slice (some ad273) t256.length co60) : Value).ownBlock) (.slice Ao99 y275.length co99) y275) ∧ Aside0 (Kd.S k39 39 w' w.heap.size (fun k_ => some k_ ≠ ((.slice (some ad273) t256.length co60) : Value).ownBlock ∧ some k_ ≠ ((.slice Ao99 y275.length co99) : Value).ownBlock) u268001 x268001_8) ∧ Aside0 (w'.heap[gb224]? = some (.cells #[(.slice (some ad274) l0_0.length c0_0), (.slice A0_1 l0_1.length c0_1)] 25 (0, 0))) ∧ Aside0 (w'.heap[gb267]? = some (.cells #[(.slice Ao99 y275.length co99), u268001] 25 (0, 0))) ∧ Aside0 (Below w.heap.size w w'))
                              case atStart => exact ⟨(0), (x268001_6), (u268001), (by first | rfl | (simp; done) | (simp [*]; done)), H', ⟨Nat.le_refl _⟩, ⟨by (with_reducible repeat (first | apply Kd.R_alloc | apply Kd.R_drewN | apply Kd.R_drew)); exact Kd.R_mono (Kd.R_far (p := ⟨gb267, 0, none⟩) (Kd.R_types HO_10.out BK267.out (by decide)) (fun _ hk => hk.2) (.slice Ao99 y275.length co99)) (fun _ hk => hk.1.2)⟩, ⟨by (with_reducible repeat (first | apply Kd.R_alloc | apply Kd.R_drewN | apply Kd.R_drew)); exact Kd.R_mono (Kd.R_far (p := ⟨gb267, 0, none⟩) (Kd.R_types HO277.out BK267.out (by decide)) (fun _ hk => hk.2) (.slice Ao99 y275.length co99)) (fun _ hk => hk.1)⟩, ⟨by (with_reducible repeat (first | apply Kd.S_alloc | apply Kd.S_drewN | apply Kd.S_drew)); exact Kd.S_mono (Kd.S_far (p := ⟨gb267, 0, none⟩) (Kd.S_types HO_268001.out BK267.out (by decide)) (fun _ hk => hk.2) (.slice Ao99 y275.length co99)) (fun _ hk => ⟨hk.1.1, hk.1.2⟩)⟩, ⟨by (with_reducible repeat (first | refine blk_drewN ?_ _ | refine blk_drew ?_ | refine blk_alloc ?_ _)); refine blk_far ?_ NB224_267.out _; (with_reducible repeat (first | refine blk_drewN ?_ _ | refine blk_drew ?_ | refine blk_alloc ?_ _)); exact BK224.out⟩, ⟨by (with_reducible repeat (first | refine blk_drewN ?_ _ | refine blk_drew ?_ | refine blk_alloc ?_ _)); refine blk_put (cs := #[u268000, u268001]) ?_ 0 _ rfl; (with_reducible repeat (first | refine blk_drewN ?_ _ | refine blk_drew ?_ | refine blk_alloc ?_ _)); exact BK267.out⟩, ⟨by repeat (first | (with_reducible first | exact HB.out | apply below_alloc | apply pw_below_drewN | apply below_drew1 | refine below_set ?_ GE224.out | refine below_set ?_ GE267.out) | exact HB.out)⟩⟩
                              case round => as_aux_lemma =>
                               clear H'
                               try clear p2
                               try clear q2
                               try clear hx2
                               try clear p6
                               try clear c8
                               try clear c9
                               try clear p26
                               try clear q26
                               try clear hx26
                               try clear p27
                               try clear q27
                               try clear hx27
                               try clear p64
                               try clear c80
                               try clear c82
                               try clear c83
                               try clear c83b0
                               try clear c85
                               try clear c86
                               try clear c90
                               try clear c91
                               try clear c91b0
                               try clear c91b1
                               try clear c92
                               try clear c92b0
                               try clear c93
                               try clear c93b0
                               try clear c94
                               try clear c94b0
                               try clear c95
                               try clear c95b0
                               try clear c96
                               try clear hx269_0
                               try clear hx273_0
                               try clear hx274_0
                               try clear p2
                               try clear p26
                               try clear p269
                               try clear p273
                               try clear p274
                               try clear p6
                               try clear p64
                               try clear q2
                               try clear q26
                               try clear q269
                               try clear q273
                               try clear q274
                               obtain ⟨x16_8, x268001_8, u268001, rfl, HA, HK8, HO_10, HO_268000, HO_268001, BK224, BK267, HB⟩ := hrel
                               cases gk with
                               | zero => exact absurd HA.out (by simp [cobblelaw07_FlatKept.l3])
                               | succ k8 =>
                                have H := HA.out
                                clear HA
                                simp only [cobblelaw07_FlatKept.l3] at H
                                by_cases c101 : x16_8 < (x268001_8.length : Int)
                                ·rw [if_pos c101] at H
                                 have c101b0 : decide (x16_8 < (x268001_8.length : Int)) = true := decide_eq_true c101
                                 clear c101
                                 by_cases c102 : 0 ≤ x16_8
                                 ·rw [if_pos c102] at H
                                  have c102b0 : decide (0 ≤ x16_8) = true := decide_eq_true c102
                                  clear c102
                                  by_cases c103 : x16_8 < (l0_1.length : Int)
                                  ·rw [if_pos c103] at H
                                   have c103b0 : decide (x16_8 < (l0_1.length : Int)) = true := decide_eq_true c103
                                   clear c103
                                   by_cases c104 : 0 ≤ x15_6
                                   ·rw [if_pos c104] at H
                                    have c104b0 : decide (0 ≤ x15_6) = true := decide_eq_true c104
                                    clear c104
                                    by_cases c105 : x15_6 < (t256.length : Int)
                                    ·rw [if_pos c105] at H
                                     have c105b0 : decide (x15_6 < (t256.length : Int)) = true := decide_eq_true c105
                                     clear c105
                                     by_cases c106 : 0 ≤ (rd t256 x15_6)
                                     ·rw [if_pos c106] at H
                                      have c106b0 : decide (0 ≤ (rd t256 x15_6)) = true := decide_eq_true c106
                                      clear c106
                                      by_cases c107 : (rd t256 x15_6) < (((rd_T39 l0_1 x16_8).f1).length : Int)
                                      ·rw [if_pos c107] at H
                                       have c107b0 : decide ((rd t256 x15_6) < (((rd_T39 l0_1 x16_8).f1).length : Int)) = true := decide_eq_true c107
                                       clear c107
                                       by_cases c108 : ((rd_T39 x268001_8 x16_8).f1).length < 17592186044416
                                       ·rw [if_pos c108] at H
                                        have LMc108 := Aside0.mk c108
                                        clear c108
                                        obtain ⟨y282, hy282⟩ : ∃ y_ : List Int, y_ = (((rd_T39 x268001_8 x16_8).f1) ++ [rd ((rd_T39 l0_1 x16_8).f1) (rd t256 x15_6)]) := ⟨_, rfl⟩
                                        replace H : (cobblelaw07_FlatKept.l3 k8 a1 t256 x12_4 x15_6 (wrap64 (x16_8 + 1)) l0_0 l0_1 y275 (x268001_8.set (x16_8 : Int).toNat (⟨(⟨(rd_T39 x268001_8 x16_8).f0.f0, (rd_T39 x268001_8 x16_8).f0.f1⟩ : S37), y282⟩ : S39))) = some r := by first | (rw [hy282]; with_reducible exact H) | (have H2_ := (Option.bind_some _ _).symm.trans H; rw [hy282]; with_reducible exact H2_) | (have H2_ := (Option.bind_some _ _).symm.trans H; with_reducible exact H2_) | with_reducible exact H | (rw [hy282]; exact H) | exact H
                                        have Ny282 := Aside0.mk hy282
                                        clear hy282
                                        obtain ⟨y285, hy285⟩ : ∃ y_ : List (S39), y_ = (x268001_8.set (x16_8 : Int).toNat (⟨(⟨(rd_T39 x268001_8 x16_8).f0.f0, (rd_T39 x268001_8 x16_8).f0.f1⟩ : S37), y282⟩ : S39)) := ⟨_, rfl⟩
                                        replace H : (cobblelaw07_FlatKept.l3 k8 a1 t256 x12_4 x15_6 (wrap64 (x16_8 + 1)) l0_0 l0_1 y275 y285) = some r := by first | (rw [hy285]; with_reducible exact H) | (have H2_ := (Option.bind_some _ _).symm.trans H; rw [hy285]; with_reducible exact H2_) | (have H2_ := (Option.bind_some _ _).symm.trans H; with_reducible exact H2_) | with_reducible exact H | (rw [hy285]; exact H) | exact H
                                        have Ny285 := Aside0.mk hy285
                                        clear hy285
                                        have H' := Aside0.mk H
                                        clear H
                                        have hnb110 := NB267_224.out
                                        have hnc110 := NB224_267.out
                                        have hcz111_0 : wr.cell? ⟨gb267, 0, none⟩ = some (.slice Ao99 y275.length co99) := (blk_cell BK267.out 0).trans rfl
                                        have hcz111_1 : wr.cell? ⟨gb267, 1, none⟩ = some (u268001) := (blk_cell BK267.out 1).trans rfl
                                        have hfz111_0 := blk_frozen BK267.out 0
                                        have hfz111_1 := blk_frozen BK267.out 1
                                        obtain ⟨Ao112, co112, eo112⟩ := Kd.S_slice HO_268001.out
                                        subst eo112
                                        try go_wp2
                                        have n0_ := Aside0.mk (Kd.R_drew HO_10.out)
                                        have n1_ := Aside0.mk (Kd.R_drew HO_268000.out)
                                        have n2_ := Aside0.mk (Kd.S_drew HO_268001.out)
                                        have n3_ := Aside0.mk (blk_drew BK224.out)
                                        have n4_ := Aside0.mk (blk_drew BK267.out)
                                        have n5_ := Aside0.mk (below_drew1 HB.out)
                                        clear HO_10
                                        clear HO_268000
                                        clear HO_268001
                                        clear BK224
                                        clear BK267
                                        clear HB
                                        have HO_10 := n0_
                                        have HO_268000 := n1_
                                        have HO_268001 := n2_
                                        have BK224 := n3_
                                        have BK267 := n4_
                                        have HB := n5_
                                        clear n0_ n1_ n2_ n3_ n4_ n5_
                                        have p278 : 0 ≤ (x16_8 : Int) := of_decide_eq_true (by first | (with_reducible assumption) | assumption)
                                        have q278 : x16_8 < (x268001_8.length : Int) := of_decide_eq_true (by first | (with_reducible assumption) | assumption)
                                        obtain ⟨ad278, A278_2, c278_2, e278, hx278_0, hx278_1, hx278_2, hl278_2, hi278_2⟩ := at_T39 (Kd.S_reads' HO_268001.out).2.2 x16_8 p278 q278
                                        cases e278
                                        obtain ⟨ce278, hce278, hMe278, hcc278⟩ := Kd.S_get HO_268001.out z39 x16_8 p278 (by first | exact q278 | exact of_decide_eq_true (by first | (with_reducible assumption) | assumption) | (have e_ := (Kd.S_reads' HO_268001.out).1; omega))
                                        obtain ⟨ve278_2, rfl, ge278_2⟩ := k39_openM hMe278
                                        have hv278_2 := hcc278 2 _ rfl
                                        rw [add_field _ _ 2 (by omega)] at hv278_2
                                        replace hv278_2 := Option.some.inj (hv278_2.symm.trans hx278_2)
                                        rw [hv278_2] at ge278_2
                                        have HL278_2 := Aside0.mk (show Kd.R (Kd.int .i64) 3 _ _ _ _ ((rd_T39 x268001_8 x16_8).f1) from ge278_2)
                                        clear hv278_2 ge278_2
                                        have HX278_2 := Aside0.mk hx278_2
                                        clear hcc278 hce278
                                        have HR278_2 := Aside0.mk hi278_2
                                        have HC278_2 := Aside0.mk hl278_2
                                        clear hi278_2 hl278_2
                                        replace p278 := eq_true p278
                                        replace q278 := eq_true q278
                                        have p279 : 0 ≤ (x16_8 : Int) := of_decide_eq_true (by first | (with_reducible assumption) | assumption)
                                        have q279 : x16_8 < (l0_1.length : Int) := of_decide_eq_true (by first | (with_reducible assumption) | assumption)
                                        obtain ⟨ad279, A279_2, c279_2, e279, hx279_0, hx279_1, hx279_2, hl279_2, hi279_2⟩ := at_T39 HR0_1.out x16_8 p279 q279
                                        have hw279_2 := hx279_2
                                        have hw279_1 := hx279_1
                                        have hw279_0 := hx279_0
                                        cases e279
                                        replace hx279_0 := (HB.out.cell (World.block_lt_of_cell? w _ hx279_0)).trans hx279_0
                                        replace hx279_1 := (HB.out.cell (World.block_lt_of_cell? w _ hx279_1)).trans hx279_1
                                        replace hx279_2 := (HB.out.cell (World.block_lt_of_cell? w _ hx279_2)).trans hx279_2
                                        have HR279_2 := Aside0.mk hi279_2
                                        have HC279_2 := Aside0.mk hl279_2
                                        clear hi279_2 hl279_2
                                        replace p279 := eq_true p279
                                        replace q279 := eq_true q279
                                        have p280 : 0 ≤ (x15_6 : Int) := of_decide_eq_true (by first | (with_reducible assumption) | assumption)
                                        have q280 : x15_6 < (t256.length : Int) := of_decide_eq_true (by first | (with_reducible assumption) | assumption)
                                        obtain ⟨ad280, e280, hx280_0⟩ := Kd.at_int (Kd.R_reads' HO_10.out).2.2 x15_6 p280 q280
                                        obtain rfl : ad273 = ad280 := (by injection e280)
                                        replace p280 := eq_true p280
                                        replace q280 := eq_true q280
                                        have p281 : 0 ≤ ((rd t256 x15_6) : Int) := of_decide_eq_true (by first | (with_reducible assumption) | assumption)
                                        have q281 : (rd t256 x15_6) < (((rd_T39 l0_1 x16_8).f1).length : Int) := of_decide_eq_true (by first | (with_reducible assumption) | assumption)
                                        obtain ⟨ad281, e281, hx281_0⟩ := Kd.at_int HR279_2.out (rd t256 x15_6) p281 q281
                                        have hw281_0 := hx281_0
                                        cases e281
                                        replace hx281_0 := (HB.out.cell (World.block_lt_of_cell? w _ hx281_0)).trans hx281_0
                                        replace p281 := eq_true p281
                                        replace q281 := eq_true q281
                                        obtain ⟨go114, co114, eo114, gb114, gl114, cl114, HG114⟩ := Kd.S_form HO_268001.out (by have h_ : (x16_8 : Int) < ((x268001_8.length : Int) : Int) := of_decide_eq_true (by first | (with_reducible assumption) | assumption); have h2_ : 0 ≤ (x16_8 : Int) := (of_decide_eq_true (by first | (with_reducible assumption) | assumption)); omega)
                                        (first | cases eo114 | (injection eo114 with ea_ en_ ec_; (first | subst ea_ | (injection ea_ with ea_; subst ea_)); subst ec_; clear en_))
                                        have GB114 := Aside0.mk gb114
                                        have GG114 := Aside0.mk HG114
                                        clear gb114 gl114 HG114
                                        (first | simp only [add_plain] at hx278_0 | skip)
                                        (first | simp only [add_plain] at hx278_1 | skip)
                                        (first | simp only [add_plain] at hx278_2 | skip)
                                        obtain ⟨oki114, ce114, hcl114, hM114, hcc114, _, _, hH114⟩ := Kd.S_elem HO_268001.out z39 (x16_8 : Int) (of_decide_eq_true (by first | (with_reducible assumption) | assumption)) (by have h_ : (x16_8 : Int) < ((x268001_8.length : Int) : Int) := of_decide_eq_true (by first | (with_reducible assumption) | assumption); first | exact h_ | (have e_ := (Kd.S_reads' HO_268001.out).1; omega) | simpa using h_)
                                        obtain ⟨ve114_2, rfl, ge114_2⟩ := k39_openM hM114
                                        have hv114 := hcc114 2 _ rfl
                                        have hX114 := HX278_2.out
                                        (try simp only [add_plain] at hX114)
                                        (try simp only [Nat.add_zero] at hv114)
                                        replace hv114 := Option.some.inj (hv114.symm.trans hX114)
                                        subst hv114
                                        clear hX114 hcc114 hcl114
                                        have UU114 := Aside0.mk (show Kd.R (Kd.int .i64) 3 _ w.heap.size oki114 (.slice A278_2 ((rd_T39 x268001_8 x16_8).f1).length c278_2) ((rd_T39 x268001_8 x16_8).f1) from ge114_2)
                                        have HH114 := Aside0.mk hH114
                                        have HN114 := Aside0.mk (Kd.S_reads' HO_268001.out).1
                                        clear hH114 ge114_2
                                        refine start_ (n := 26) (S := fun w' => w'.cell? ⟨gb267, 0, none⟩ = some (.slice Ao99 y275.length co99) ∧ w'.cell? ⟨gb267, 1, none⟩ = some (.slice (some ⟨go114, 0, none⟩) x268001_8.length co112) ∧ w'.cell? ⟨gb224, 0, none⟩ = some (.slice (some ad274) l0_0.length c0_0) ∧ w'.cell? ⟨gb224, 1, none⟩ = some (.slice (some ad279) l0_1.length c0_1) ∧ w'.cell? ⟨go114, ((x16_8).toNat * 3), none⟩ = some (.int .i64 ((rd_T39 x268001_8 x16_8).f0.f0)) ∧ w'.cell? ⟨go114, ((x16_8).toNat * 3) + 1, none⟩ = some (.int .i64 ((rd_T39 x268001_8 x16_8).f0.f1)) ∧ w'.cell? ⟨go114, ((x16_8).toNat * 3) + 2, none⟩ = some (.slice A278_2 ((rd_T39 x268001_8 x16_8).f1).length c278_2) ∧ w'.cell? (ad279.add ((x16_8).toNat * 3)) = some (.int .i64 ((rd_T39 l0_1 x16_8).f0.f0)) ∧ w'.cell? ⟨(ad279.add ((x16_8).toNat * 3)).block, (ad279.add ((x16_8).toNat * 3)).off + 1, none⟩ = some (.int .i64 ((rd_T39 l0_1 x16_8).f0.f1)) ∧ w'.cell? ⟨(ad279.add ((x16_8).toNat * 3)).block, (ad279.add ((x16_8).toNat * 3)).off + 2, none⟩ = some (.slice (some ad281) ((rd_T39 l0_1 x16_8).f1).length c279_2) ∧ w'.cell? (ad273.add (x15_6).toNat) = some (.int .i64 (rd t256 x15_6)) ∧ w'.cell? (ad281.add ((rd t256 x15_6)).toNat) = some (.int .i64 (rd ((rd_T39 l0_1 x16_8).f1) (rd t256 x15_6)))) (ds := [25]) #[false, false, false, false, false, false, false, false, false, false, false, false, false, false, false, false, false, false, false, false, false, false, false, false, false, false] (by kernel_rfl) rfl rfl ⟨(blk_cell BK267.out 0).trans rfl, (blk_cell BK267.out 1).trans rfl, (blk_cell BK224.out 0).trans rfl, (blk_cell BK224.out 1).trans rfl, hx278_0, hx278_1, hx278_2, ((HB.out.cell (World.block_lt_of_cell? w _ hw279_0)).trans hw279_0), ((HB.out.cell (World.block_lt_of_cell? w _ hw279_1)).trans hw279_1), ((HB.out.cell (World.block_lt_of_cell? w _ hw279_2)).trans hw279_2), hx280_0, ((HB.out.cell (World.block_lt_of_cell? w _ hw281_0)).trans hw281_0)⟩ (fun hHeld => ?_); refine with_tabW cobblelaw07_FlatKept.tab32 cobblelaw07_FlatKept.bits32 (fun HT_ HW_ => ?_)
                                        generalize wr.drew = w113 at HO_10 HO_268000 HO_268001 BK224 BK267 HB GG114 HH114 HL278_2 HR278_2 HR279_2 HX278_2 UU114 hx278_0 hx278_1 hx278_2 hx279_0 hx279_1 hx279_2 hx280_0 hx281_0 hHeld ⊢
                                        refine pure_ (i := 0) (N := some 169) (v := ?_) (a' := ?_) #[true, false, false, false, false, false, false, false, false, false, false, false, false, false, false, false, false, false, false, false, false, false, false, false, false, false] rfl rfl (any_of HT_.out (by kernel_rfl)) (fun _ _ _ h => h) (Or.inl ⟨by rfl, ?_⟩) ?_ ?_
                                        rotate_left
                                        ·intro w'
                                         go_simp
                                         with_reducible rfl
                                        rotate_left
                                        ·simp only [Act.put, List.setIfInBounds_toArray, List.set_cons_zero, List.set_cons_succ, i64_w, i32_w]
                                         rfl
                                        refine pure_ (i := 2) (N := some 171) (v := ?_) (a' := ?_) #[true, false, true, false, false, false, false, false, false, false, false, false, false, false, false, false, false, false, false, false, false, false, false, false, false, false] rfl rfl (any_of HT_.out (by kernel_rfl)) (fun _ _ _ h => h) (Or.inl ⟨by rfl, ?_⟩) ?_ ?_
                                        rotate_left
                                        ·intro w'
                                         go_simp
                                         with_reducible rfl
                                        rotate_left
                                        ·simp only [Act.put, List.setIfInBounds_toArray, List.set_cons_zero, List.set_cons_succ, i64_w, i32_w]
                                         rfl
                                        refine pure_ (i := 3) (N := some 172) (v := ?_) (a' := ?_) #[true, false, true, true, false, false, false, false, false, false, false, false, false, false, false, false, false, false, false, false, false, false, false, false, false, false] rfl rfl (any_of HT_.out (by kernel_rfl)) (fun _ _ _ h => h) (Or.inl ⟨by rfl, ?_⟩) ?_ ?_
                                        rotate_left
                                        ·intro w'
                                         go_simp
                                         with_reducible rfl
                                        rotate_left
                                        ·simp only [Act.put, List.setIfInBounds_toArray, List.set_cons_zero, List.set_cons_succ, i64_w, i32_w]
                                         rfl
                                        refine pure_ (i := 5) (N := some 174) (v := ?_) (a' := ?_) #[true, false, true, true, false, true, false, false, false, false, false, false, false, false, false, false, false, false, false, false, false, false, false, false, false, false] rfl rfl (any_of HT_.out (by kernel_rfl)) (fun _ _ _ h => h) (Or.inl ⟨by rfl, ?_⟩) ?_ ?_
                                        rotate_left
                                        ·intro w'
                                         go_simp
                                         with_reducible rfl
                                        rotate_left
                                        ·simp only [Act.put, List.setIfInBounds_toArray, List.set_cons_zero, List.set_cons_succ, i64_w, i32_w]
                                         rfl
                                        refine pure_ (i := 9) (N := some 178) (v := ?_) (a' := ?_) #[true, false, true, true, false, true, false, false, false, true, false, false, false, false, false, false, false, false, false, false, false, false, false, false, false, false] rfl rfl (any_of HT_.out (by kernel_rfl)) (fun _ _ _ h => h) (Or.inl ⟨by rfl, ?_⟩) ?_ ?_
                                        rotate_left
                                        ·intro w'
                                         go_simp
                                         with_reducible rfl
                                        rotate_left
                                        ·simp only [Act.put, List.setIfInBounds_toArray, List.set_cons_zero, List.set_cons_succ, i64_w, i32_w]
                                         rfl
                                        refine pure_ (i := 11) (N := some 180) (v := ?_) (a' := ?_) #[true, false, true, true, false, true, false, false, false, true, false, true, false, false, false, false, false, false, false, false, false, false, false, false, false, false] rfl rfl (any_of HT_.out (by kernel_rfl)) (fun _ _ _ h => h) (Or.inl ⟨by rfl, ?_⟩) ?_ ?_
                                        rotate_left
                                        ·intro w'
                                         go_simp
                                         with_reducible rfl
                                        rotate_left
                                        ·simp only [Act.put, List.setIfInBounds_toArray, List.set_cons_zero, List.set_cons_succ, i64_w, i32_w]
                                         rfl
                                        refine pure_ (i := 15) (N := some 184) (v := ?_) (a' := ?_) #[true, false, true, true, false, true, false, false, false, true, false, true, false, false, false, true, false, false, false, false, false, false, false, false, false, false] rfl rfl (any_of HT_.out (by kernel_rfl)) (fun _ _ _ h => h) (Or.inl ⟨by rfl, ?_⟩) ?_ ?_
                                        rotate_left
                                        ·intro w'
                                         go_simp
                                         with_reducible rfl
                                        rotate_left
                                        ·simp only [Act.put, List.setIfInBounds_toArray, List.set_cons_zero, List.set_cons_succ, i64_w, i32_w]
                                         rfl
                                        refine pure_ (i := 16) (N := some 185) (v := ?_) (a' := ?_) #[true, false, true, true, false, true, false, false, false, true, false, true, false, false, false, true, true, false, false, false, false, false, false, false, false, false] rfl rfl (any_of HT_.out (by kernel_rfl)) (fun _ _ _ h => h) (Or.inl ⟨by rfl, ?_⟩) ?_ ?_
                                        rotate_left
                                        ·intro w'
                                         go_simp
                                         with_reducible rfl
                                        rotate_left
                                        ·simp only [Act.put, List.setIfInBounds_toArray, List.set_cons_zero, List.set_cons_succ, i64_w, i32_w]
                                         rfl
                                        refine pure_ (i := 17) (N := some 186) (v := ?_) (a' := ?_) #[true, false, true, true, false, true, false, false, false, true, false, true, false, false, false, true, true, true, false, false, false, false, false, false, false, false] rfl rfl (any_of HT_.out (by kernel_rfl)) (fun _ _ _ h => h) (Or.inl ⟨by rfl, ?_⟩) ?_ ?_
                                        rotate_left
                                        ·intro w'
                                         go_simp
                                         with_reducible rfl
                                        rotate_left
                                        ·simp only [Act.put, List.setIfInBounds_toArray, List.set_cons_zero, List.set_cons_succ, i64_w, i32_w]
                                         rfl
                                        refine take_ (i := 1) (N := some 170) (v := ?_) (a' := ?_) #[true, true, true, true, false, true, false, false, false, true, false, true, false, false, false, true, true, true, false, false, false, false, false, false, false, false] rfl rfl (take_ofW HT_.out HW_.out (by kernel_rfl)) (fun _ _ _ h => h) (Or.inl ⟨by rfl, ?_⟩) hHeld ?_ ?_
                                        rotate_left
                                        ·rintro w' ⟨s0, s1, s2, s3, s4, s5, s6, s7, s8, s9, s10, s11⟩
                                         go_simp
                                         with_reducible rfl
                                        rotate_left
                                        ·simp only [Act.put, List.setIfInBounds_toArray, List.set_cons_zero, List.set_cons_succ, i64_w, i32_w]
                                         rfl
                                        refine take_ (i := 4) (N := some 173) (v := ?_) (a' := ?_) #[true, true, true, true, true, true, false, false, false, true, false, true, false, false, false, true, true, true, false, false, false, false, false, false, false, false] rfl rfl (take_ofW HT_.out HW_.out (by kernel_rfl)) (fun _ _ _ h => h) (Or.inl ⟨by rfl, ?_⟩) hHeld ?_ ?_
                                        rotate_left
                                        ·rintro w' ⟨s0, s1, s2, s3, s4, s5, s6, s7, s8, s9, s10, s11⟩
                                         go_simp
                                         with_reducible rfl
                                        rotate_left
                                        ·simp only [Act.put, List.setIfInBounds_toArray, List.set_cons_zero, List.set_cons_succ, i64_w, i32_w]
                                         rfl
                                        refine pure_ (i := 6) (N := some 175) (v := ?_) (a' := ?_) #[true, true, true, true, true, true, true, false, false, true, false, true, false, false, false, true, true, true, false, false, false, false, false, false, false, false] rfl rfl (any_of HT_.out (by kernel_rfl)) (fun _ _ _ h => h) (Or.inl ⟨by rfl, ?_⟩) ?_ ?_
                                        rotate_left
                                        ·intro w'
                                         go_simp
                                         with_reducible rfl
                                        rotate_left
                                        ·simp only [Act.put, List.setIfInBounds_toArray, List.set_cons_zero, List.set_cons_succ, i64_w, i32_w]
                                         rfl
                                        refine pure_ (i := 7) (N := some 176) (v := ?_) (a' := ?_) #[true, true, true, true, true, true, true, true, false, true, false, true, false, false, false, true, true, true, false, false, false, false, false, false, false, false] rfl rfl (any_of HT_.out (by kernel_rfl)) (fun _ _ _ h => h) (Or.inl ⟨by rfl, ?_⟩) ?_ ?_
                                        rotate_left
                                        ·intro w'
                                         go_simp
                                         with_reducible rfl
                                        rotate_left
                                        ·simp only [Act.put, List.setIfInBounds_toArray, List.set_cons_zero, List.set_cons_succ, i64_w, i32_w]
                                         rfl
                                        refine take_ (i := 8) (N := some 177) (v := ?_) (a' := ?_) #[true, true, true, true, true, true, true, true, true, true, false, true, false, false, false, true, true, true, false, false, false, false, false, false, false, false] rfl rfl (take_ofW HT_.out HW_.out (by kernel_rfl)) (fun _ _ _ h => h) (Or.inl ⟨by rfl, ?_⟩) hHeld ?_ ?_
                                        rotate_left
                                        ·rintro w' ⟨s0, s1, s2, s3, s4, s5, s6, s7, s8, s9, s10, s11⟩
                                         go_simp
                                         with_reducible rfl
                                        rotate_left
                                        ·simp only [Act.put, List.setIfInBounds_toArray, List.set_cons_zero, List.set_cons_succ, i64_w, i32_w]
                                         rfl
                                        refine take_ (i := 10) (N := some 179) (v := ?_) (a' := ?_) #[true, true, true, true, true, true, true, true, true, true, true, true, false, false, false, true, true, true, false, false, false, false, false, false, false, false] rfl rfl (take_ofW HT_.out HW_.out (by kernel_rfl)) (fun _ _ _ h => h) (Or.inl ⟨by rfl, ?_⟩) hHeld ?_ ?_
                                        rotate_left
                                        ·rintro w' ⟨s0, s1, s2, s3, s4, s5, s6, s7, s8, s9, s10, s11⟩
                                         go_simp
                                         with_reducible rfl
                                        rotate_left
                                        ·simp only [Act.put, List.setIfInBounds_toArray, List.set_cons_zero, List.set_cons_succ, i64_w, i32_w]
                                         rfl
                                        refine pure_ (i := 12) (N := some 181) (v := ?_) (a' := ?_) #[true, true, true, true, true, true, true, true, true, true, true, true, true, false, false, true, true, true, false, false, false, false, false, false, false, false] rfl rfl (any_of HT_.out (by kernel_rfl)) (fun _ _ _ h => h) (Or.inl ⟨by rfl, ?_⟩) ?_ ?_
                                        rotate_left
                                        ·intro w'
                                         go_simp
                                         with_reducible rfl
                                        rotate_left
                                        ·simp only [Act.put, List.setIfInBounds_toArray, List.set_cons_zero, List.set_cons_succ, i64_w, i32_w]
                                         rfl
                                        refine pure_ (i := 13) (N := some 182) (v := ?_) (a' := ?_) #[true, true, true, true, true, true, true, true, true, true, true, true, true, true, false, true, true, true, false, false, false, false, false, false, false, false] rfl rfl (any_of HT_.out (by kernel_rfl)) (fun _ _ _ h => h) (Or.inl ⟨by rfl, ?_⟩) ?_ ?_
                                        rotate_left
                                        ·intro w'
                                         go_simp
                                         with_reducible rfl
                                        rotate_left
                                        ·simp only [Act.put, List.setIfInBounds_toArray, List.set_cons_zero, List.set_cons_succ, i64_w, i32_w]
                                         rfl
                                        refine take_ (i := 14) (N := some 183) (v := ?_) (a' := ?_) #[true, true, true, true, true, true, true, true, true, true, true, true, true, true, true, true, true, true, false, false, false, false, false, false, false, false] rfl rfl (take_ofW HT_.out HW_.out (by kernel_rfl)) (fun _ _ _ h => h) (Or.inl ⟨by rfl, ?_⟩) hHeld ?_ ?_
                                        rotate_left
                                        ·rintro w' ⟨s0, s1, s2, s3, s4, s5, s6, s7, s8, s9, s10, s11⟩
                                         go_simp
                                         with_reducible rfl
                                        rotate_left
                                        ·simp only [Act.put, List.setIfInBounds_toArray, List.set_cons_zero, List.set_cons_succ, i64_w, i32_w]
                                         rfl
                                        refine take_ (i := 18) (N := some 187) (v := ?_) (a' := ?_) #[true, true, true, true, true, true, true, true, true, true, true, true, true, true, true, true, true, true, true, false, false, false, false, false, false, false] rfl rfl (take_ofW HT_.out HW_.out (by kernel_rfl)) (fun _ _ _ h => h) (Or.inl ⟨by rfl, ?_⟩) hHeld ?_ ?_
                                        rotate_left
                                        ·rintro w' ⟨s0, s1, s2, s3, s4, s5, s6, s7, s8, s9, s10, s11⟩
                                         go_simp
                                         with_reducible rfl
                                        rotate_left
                                        ·simp only [Act.put, List.setIfInBounds_toArray, List.set_cons_zero, List.set_cons_succ, i64_w, i32_w]
                                         rfl
                                        refine pure_ (i := 19) (N := some 188) (v := ?_) (a' := ?_) #[true, true, true, true, true, true, true, true, true, true, true, true, true, true, true, true, true, true, true, true, false, false, false, false, false, false] rfl rfl (any_of HT_.out (by kernel_rfl)) (fun _ _ _ h => h) (Or.inl ⟨by rfl, ?_⟩) ?_ ?_
                                        rotate_left
                                        ·intro w'
                                         go_simp
                                         with_reducible rfl
                                        rotate_left
                                        ·simp only [Act.put, List.setIfInBounds_toArray, List.set_cons_zero, List.set_cons_succ, i64_w, i32_w]
                                         rfl
                                        refine take_ (i := 20) (N := some 189) (v := ?_) (a' := ?_) #[true, true, true, true, true, true, true, true, true, true, true, true, true, true, true, true, true, true, true, true, true, false, false, false, false, false] rfl rfl (take_ofW HT_.out HW_.out (by kernel_rfl)) (fun _ _ _ h => h) (Or.inl ⟨by rfl, ?_⟩) hHeld ?_ ?_
                                        rotate_left
                                        ·rintro w' ⟨s0, s1, s2, s3, s4, s5, s6, s7, s8, s9, s10, s11⟩
                                         go_simp
                                         with_reducible rfl
                                        rotate_left
                                        ·simp only [Act.put, List.setIfInBounds_toArray, List.set_cons_zero, List.set_cons_succ, i64_w, i32_w]
                                         rfl
                                        refine one_ (i := 21) (N := some 190) #[true, true, true, true, true, true, true, true, true, true, true, true, true, true, true, true, true, true, true, true, true, true, false, false, false, false] rfl rfl (one_of HT_.out (by kernel_rfl)) (by decide) (fun K hK => ?_)
                                        refine value_ (w1 := ?_) (v := ?_) (by rfl) rfl ?_ ?_
                                        rotate_left 2
                                        ·go_simp
                                         constructor
                                         ·rfl
                                         ·rfl
                                        refine hK.out _ _ ⟨(blk_cell (blk_alloc BK267.out _) 0).trans rfl, (blk_cell (blk_alloc BK267.out _) 1).trans rfl, (blk_cell (blk_alloc BK224.out _) 0).trans rfl, (blk_cell (blk_alloc BK224.out _) 1).trans rfl, (World.cell?_alloc_lt _ _ _ (World.block_lt_of_cell? _ _ (hHeld.2.2.2.2.1))).trans (hHeld.2.2.2.2.1), (World.cell?_alloc_lt _ _ _ (World.block_lt_of_cell? _ _ (hHeld.2.2.2.2.2.1))).trans (hHeld.2.2.2.2.2.1), (World.cell?_alloc_lt _ _ _ (World.block_lt_of_cell? _ _ (hHeld.2.2.2.2.2.2.1))).trans (hHeld.2.2.2.2.2.2.1), (World.cell?_alloc_lt _ _ _ (World.block_lt_of_cell? _ _ (((HB.out.cell (World.block_lt_of_cell? w _ hw279_0)).trans hw279_0)))).trans (((HB.out.cell (World.block_lt_of_cell? w _ hw279_0)).trans hw279_0)), (World.cell?_alloc_lt _ _ _ (World.block_lt_of_cell? _ _ (((HB.out.cell (World.block_lt_of_cell? w _ hw279_1)).trans hw279_1)))).trans (((HB.out.cell (World.block_lt_of_cell? w _ hw279_1)).trans hw279_1)), (World.cell?_alloc_lt _ _ _ (World.block_lt_of_cell? _ _ (((HB.out.cell (World.block_lt_of_cell? w _ hw279_2)).trans hw279_2)))).trans (((HB.out.cell (World.block_lt_of_cell? w _ hw279_2)).trans hw279_2)), (World.cell?_alloc_lt _ _ _ (World.block_lt_of_cell? _ _ (hHeld.2.2.2.2.2.2.2.2.2.2.1))).trans (hHeld.2.2.2.2.2.2.2.2.2.2.1), (World.cell?_alloc_lt _ _ _ (World.block_lt_of_cell? _ _ (((HB.out.cell (World.block_lt_of_cell? w _ hw281_0)).trans hw281_0)))).trans (((HB.out.cell (World.block_lt_of_cell? w _ hw281_0)).trans hw281_0))⟩ (fun hHeld => ?_)
                                        clear hK K
                                        refine norm_ (a' := ?_) ?_ ?_
                                        rotate_left
                                        ·show Act.put _ (some 190) _ = _
                                         simp only [Act.put, List.setIfInBounds_toArray, List.set_cons_zero, List.set_cons_succ, i64_w, i32_w]
                                         rfl
                                        refine one_ (i := 22) (N := some 191) #[true, true, true, true, true, true, true, true, true, true, true, true, true, true, true, true, true, true, true, true, true, true, true, false, false, false] rfl rfl (one_of HT_.out (by kernel_rfl)) (by decide) (fun K hK => ?_)
                                        refine Kd.R_append_step (Kd.int .i64) (w0 := w) w.heap.size (by rfl) (.tmp 177) (.tmp 190) 22 3 (.int .i64 0) 8 rfl Try.underlying22 info3 rfl (by decide) (by omega) (.slice A278_2 ((rd_T39 x268001_8 x16_8).f1).length c278_2) ((rd_T39 x268001_8 x16_8).f1) (rd ((rd_T39 l0_1 x16_8).f1) (rd t256 x15_6)) [.int .i64 (rd ((rd_T39 l0_1 x16_8).f1) (rd t256 x15_6))] (fun k_ => oki114 k_ ∨ ((fun k_ => some k_ ≠ (.slice (some ad273) t256.length co60 : Value).ownBlock ∧ some k_ ≠ (.slice Ao99 y275.length co99 : Value).ownBlock)) k_ ∧ w113.heap.size ≤ k_) (fun _ => False) rfl rfl ?aP (fun _ hk => hk.elim) ?aF ?aO ?aB ?aS ?aL ?_
                                        (case aP => exact rfl)
                                        (case aB => exact (by repeat (first | (with_reducible first | exact HB.out | apply below_alloc | apply pw_below_drewN | apply below_drew1 | refine below_set ?_ GE224.out | refine below_set ?_ GE267.out) | exact HB.out)))
                                        (case aF => exact (fun k_ hk => .inr ⟨⟨Kd.fresh' (Kd.R_lt (by (with_reducible repeat (first | apply Kd.R_alloc | apply Kd.R_drewN | apply Kd.R_drew)); exact HO_10.out)) k_ hk, Kd.fresh' (Kd.R_lt (by (with_reducible repeat (first | apply Kd.R_alloc | apply Kd.R_drewN | apply Kd.R_drew)); exact HO_268000.out)) k_ hk⟩, hk⟩))
                                        (case aO => exact (by (with_reducible repeat (first | apply Kd.R_alloc | apply Kd.R_drewN | apply Kd.R_drew)); exact Kd.R_mono UU114.out (fun _ hk => .inl hk)))
                                        (case aS => exact (below_size (by repeat (first | (with_reducible first | exact HB.out | apply below_alloc | apply pw_below_drewN | apply below_drew1 | refine below_set ?_ GE224.out | refine below_set ?_ GE267.out) | exact HB.out))))
                                        (case aL => have := LMc108.out; omega)
                                        intro v283 w115 ho hb hg hat
                                        (first | have HS4_ := cell_grown hg (hHeld.2.2.2.2.1) (by first | (rw [add_block]; exact (fun e_ => ((HL278_2.out.1 _ e_.symm).2) rfl)) | (show some (Addr.add _ _).block ≠ _; rw [add_block]; exact (fun e_ => ((HL278_2.out.1 _ e_.symm).2) rfl)) | exact (fun e_ => ((HL278_2.out.1 _ e_.symm).2) rfl)) | have HS4_ := cell_grown hg (cell_unalloc (hHeld.2.2.2.2.1) (by first | (rw [add_block]; exact Kd.S_lt HO_268001.out _ rfl) | (show (Addr.add _ _).block < _; rw [add_block]; exact Kd.S_lt HO_268001.out _ rfl) | exact Kd.S_lt HO_268001.out _ rfl)) (by first | (rw [add_block]; exact (fun e_ => ((HL278_2.out.1 _ e_.symm).2) rfl)) | (show some (Addr.add _ _).block ≠ _; rw [add_block]; exact (fun e_ => ((HL278_2.out.1 _ e_.symm).2) rfl)) | exact (fun e_ => ((HL278_2.out.1 _ e_.symm).2) rfl)))
                                        (first | have HS5_ := cell_grown hg (hHeld.2.2.2.2.2.1) (by first | (rw [add_block]; exact (fun e_ => ((HL278_2.out.1 _ e_.symm).2) rfl)) | (show some (Addr.add _ _).block ≠ _; rw [add_block]; exact (fun e_ => ((HL278_2.out.1 _ e_.symm).2) rfl)) | exact (fun e_ => ((HL278_2.out.1 _ e_.symm).2) rfl)) | have HS5_ := cell_grown hg (cell_unalloc (hHeld.2.2.2.2.2.1) (by first | (rw [add_block]; exact Kd.S_lt HO_268001.out _ rfl) | (show (Addr.add _ _).block < _; rw [add_block]; exact Kd.S_lt HO_268001.out _ rfl) | exact Kd.S_lt HO_268001.out _ rfl)) (by first | (rw [add_block]; exact (fun e_ => ((HL278_2.out.1 _ e_.symm).2) rfl)) | (show some (Addr.add _ _).block ≠ _; rw [add_block]; exact (fun e_ => ((HL278_2.out.1 _ e_.symm).2) rfl)) | exact (fun e_ => ((HL278_2.out.1 _ e_.symm).2) rfl)))
                                        (first | have HS6_ := cell_grown hg (hHeld.2.2.2.2.2.2.1) (by first | (rw [add_block]; exact (fun e_ => ((HL278_2.out.1 _ e_.symm).2) rfl)) | (show some (Addr.add _ _).block ≠ _; rw [add_block]; exact (fun e_ => ((HL278_2.out.1 _ e_.symm).2) rfl)) | exact (fun e_ => ((HL278_2.out.1 _ e_.symm).2) rfl)) | have HS6_ := cell_grown hg (cell_unalloc (hHeld.2.2.2.2.2.2.1) (by first | (rw [add_block]; exact Kd.S_lt HO_268001.out _ rfl) | (show (Addr.add _ _).block < _; rw [add_block]; exact Kd.S_lt HO_268001.out _ rfl) | exact Kd.S_lt HO_268001.out _ rfl)) (by first | (rw [add_block]; exact (fun e_ => ((HL278_2.out.1 _ e_.symm).2) rfl)) | (show some (Addr.add _ _).block ≠ _; rw [add_block]; exact (fun e_ => ((HL278_2.out.1 _ e_.symm).2) rfl)) | exact (fun e_ => ((HL278_2.out.1 _ e_.symm).2) rfl)))
                                        (first | have HS10_ := cell_grown hg (hHeld.2.2.2.2.2.2.2.2.2.2.1) (by first | (rw [add_block]; exact (fun e_ => ((HL278_2.out.1 _ e_.symm).1.1) rfl)) | (show some (Addr.add _ _).block ≠ _; rw [add_block]; exact (fun e_ => ((HL278_2.out.1 _ e_.symm).1.1) rfl)) | exact (fun e_ => ((HL278_2.out.1 _ e_.symm).1.1) rfl)) | have HS10_ := cell_grown hg (cell_unalloc (hHeld.2.2.2.2.2.2.2.2.2.2.1) (by first | (rw [add_block]; exact Kd.R_lt HO_10.out _ rfl) | (show (Addr.add _ _).block < _; rw [add_block]; exact Kd.R_lt HO_10.out _ rfl) | exact Kd.R_lt HO_10.out _ rfl)) (by first | (rw [add_block]; exact (fun e_ => ((HL278_2.out.1 _ e_.symm).1.1) rfl)) | (show some (Addr.add _ _).block ≠ _; rw [add_block]; exact (fun e_ => ((HL278_2.out.1 _ e_.symm).1.1) rfl)) | exact (fun e_ => ((HL278_2.out.1 _ e_.symm).1.1) rfl)))
                                        rw [← Ny282.out] at ho
                                        have n0_ := Aside0.mk (Kd.R_grown2 (by (with_reducible repeat (first | apply Kd.R_alloc | apply Kd.R_drewN | apply Kd.R_drew)); exact HO_10.out) rfl hg (fun k_ e_ => (HL278_2.out.1 k_ e_).1.1))
                                        have n1_ := Aside0.mk (Kd.R_grown2 (by (with_reducible repeat (first | apply Kd.R_alloc | apply Kd.R_drewN | apply Kd.R_drew)); exact HO_268000.out) rfl hg (fun k_ e_ => (HL278_2.out.1 k_ e_).1.2))
                                        have n2_ := Aside0.mk (blk_grown (g := gb224) (o := .cells #[.slice (some ad274) l0_0.length c0_0, .slice (some ad279) l0_1.length c0_1] 25 (0, 0)) (by (with_reducible repeat (first | refine blk_drewN ?_ _ | refine blk_drew ?_ | refine blk_alloc ?_ _)); exact BK224.out) hg (Kd.R_ne HL278_2.out BK224.out (by decide)))
                                        have n3_ := Aside0.mk (blk_grown (g := gb267) (o := .cells #[.slice Ao99 y275.length co99, .slice (some ⟨go114, 0, none⟩) x268001_8.length co112] 25 (0, 0)) (by (with_reducible repeat (first | refine blk_drewN ?_ _ | refine blk_drew ?_ | refine blk_alloc ?_ _)); exact BK267.out) hg (Kd.R_ne HL278_2.out BK267.out (by decide)))
                                        have n4_ := Aside0.mk (hb)
                                        have n5_ := Aside0.mk (Kd.H_grown (Kd.H_widen (by repeat (first | exact HH114.out | refine Kd.H_alloc ?_ _ | refine Kd.H_drewN ?_ _ | refine Kd.H_drew ?_))) hg (fun k_ e_ => .inl (UU114.out.1 k_ e_)))
                                        have n6_ := Aside0.mk (ho)
                                        clear HO_10
                                        clear HO_268000
                                        clear BK224
                                        clear BK267
                                        clear HB
                                        clear HH114
                                        clear HO_268001
                                        clear UU114
                                        clear HL278_2
                                        have HO_10 := n0_
                                        have HO_268000 := n1_
                                        have BK224 := n2_
                                        have BK267 := n3_
                                        have HB := n4_
                                        have HH114 := n5_
                                        have HO284 := n6_
                                        clear n0_ n1_ n2_ n3_ n4_ n5_ n6_
                                        clear ho hb hg hat
                                        have p109 : 0 ≤ (x16_8 : Int) := of_decide_eq_true (by first | (with_reducible assumption) | assumption)
                                        have q109 : (x16_8 : Int) < ((x268001_8.length : Int) : Int) := of_decide_eq_true (by first | (with_reducible assumption) | assumption)
                                        replace p109 := eq_true p109
                                        replace q109 := eq_true q109
                                        obtain ⟨Ao118, co118, eo118⟩ := Kd.R_slice HO284.out
                                        (first | subst eo118 | (injection eo118 with f1_ f2_ f3_; have f4_ := f1_.symm; have f5_ := f3_.symm; clear f1_ f2_ f3_; subst f4_; subst f5_))
                                        obtain ⟨_, _, hraw116, _, _, hcc116, _⟩ := Kd.H_raw HH114.out (of_decide_eq_true (by first | (with_reducible assumption) | assumption)) (by have h_ : (x16_8 : Int) < ((x268001_8.length : Int) : Int) := of_decide_eq_true (by first | (with_reducible assumption) | assumption); first | exact h_ | (have e_ := (HN114.out); omega) | simpa using h_)
                                        obtain ⟨_, hfr116⟩ := Kd.H_at HH114.out (of_decide_eq_true (by first | (with_reducible assumption) | assumption)) (by have h_ : (x16_8 : Int) < ((x268001_8.length : Int) : Int) := of_decide_eq_true (by first | (with_reducible assumption) | assumption); first | exact h_ | (have e_ := (HN114.out); omega) | simpa using h_)
                                        have hx116_0 := hcc116 2 _ rfl
                                        have hf116_0 := hfr116 2
                                        (try rw [show (k39).sz = 3 from rfl] at hx116_0)
                                        (try rw [show (k39).sz = 3 from rfl] at hf116_0)
                                        have HP116 := Kd.S_seg0 HH114.out (of_decide_eq_true (by first | (with_reducible assumption) | assumption)) (by have h_ : (x16_8 : Int) < ((x268001_8.length : Int) : Int) := of_decide_eq_true (by first | (with_reducible assumption) | assumption); first | exact h_ | (have e_ := (HN114.out); omega) | simpa using h_) (seg := [.slice Ao118 y282.length co118]) (j := 2) (show 3 ≤ 3 from by decide) (x' := (⟨(⟨(rd_T39 x268001_8 x16_8).f0.f0, (rd_T39 x268001_8 x16_8).f0.f1⟩ : S37), y282⟩ : S39)) (k39_mkM _ _ _ (⟨(⟨(rd_T39 x268001_8 x16_8).f0.f0, (rd_T39 x268001_8 x16_8).f0.f1⟩ : S37), y282⟩ : S39) HO284.out) (fun _ hk => hk)
                                        clear hcc116 hfr116
                                        have HNB224_go114 := Aside0.mk (show gb224 ≠ go114 from by have h_ := Kd.R_ne hraw116 BK224.out (by decide); intro e_; exact h_ (by rw [e_]; rfl))
                                        have HNB267_go114 := Aside0.mk (show gb267 ≠ go114 from by have h_ := Kd.R_ne hraw116 BK267.out (by decide); intro e_; exact h_ (by rw [e_]; rfl))
                                        have HS116 := HP116.1
                                        rw [← Ny285.out] at HS116
                                        have HQ116 := Aside0.mk HS116
                                        obtain ⟨_, hgg116⟩ := Kd.R_typed hraw116 go114 rfl
                                        have GG116_ := Aside0.mk hgg116
                                        clear HP116 HS116 hgg116
                                        refine hK.out _ _ ⟨(blk_cell BK267.out 0).trans rfl, (blk_cell BK267.out 1).trans rfl, (blk_cell BK224.out 0).trans rfl, (blk_cell BK224.out 1).trans rfl, HS4_, HS5_, HS6_, ((HB.out.cell (World.block_lt_of_cell? w _ hw279_0)).trans hw279_0), ((HB.out.cell (World.block_lt_of_cell? w _ hw279_1)).trans hw279_1), ((HB.out.cell (World.block_lt_of_cell? w _ hw279_2)).trans hw279_2), HS10_, ((HB.out.cell (World.block_lt_of_cell? w _ hw281_0)).trans hw281_0)⟩ (fun hHeld => ?_)
                                        clear hK K
                                        refine norm_ (a' := ?_) ?_ ?_
                                        rotate_left
                                        ·show Act.put _ (some 191) _ = _
                                         simp only [Act.put, List.setIfInBounds_toArray, List.set_cons_zero, List.set_cons_succ, i64_w, i32_w]
                                         rfl
                                        refine pure_ (i := 23) (N := some 192) (v := ?_) (a' := ?_) #[true, true, true, true, true, true, true, true, true, true, true, true, true, true, true, true, true, true, true, true, true, true, true, true, false, false] rfl rfl (any_of HT_.out (by kernel_rfl)) (fun _ _ _ h => h) (Or.inl ⟨by rfl, ?_⟩) ?_ ?_
                                        rotate_left
                                        ·intro w'
                                         go_simp
                                         with_reducible rfl
                                        rotate_left
                                        ·simp only [Act.put, List.setIfInBounds_toArray, List.set_cons_zero, List.set_cons_succ, i64_w, i32_w]
                                         rfl
                                        refine pure_ (i := 24) (N := some 193) (v := ?_) (a' := ?_) #[true, true, true, true, true, true, true, true, true, true, true, true, true, true, true, true, true, true, true, true, true, true, true, true, true, false] rfl rfl (any_of HT_.out (by kernel_rfl)) (fun _ _ _ h => h) (Or.inl ⟨by rfl, ?_⟩) ?_ ?_
                                        rotate_left
                                        ·intro w'
                                         go_simp
                                         with_reducible rfl
                                        rotate_left
                                        ·simp only [Act.put, List.setIfInBounds_toArray, List.set_cons_zero, List.set_cons_succ, i64_w, i32_w]
                                         rfl
                                        refine last_ (i := 25) (N := none) #[true, true, true, true, true, true, true, true, true, true, true, true, true, true, true, true, true, true, true, true, true, true, true, true, true, true] rfl rfl (one_of HT_.out (by kernel_rfl)) (by decide) (fun K hK => ?_)
                                        refine skip_ (w1 := ?_) (by rfl) rfl ?_ ?_
                                        rotate_left
                                        ·go_simp
                                         rfl
                                        refine hK.out _ _ ?_
                                        clear hK K
                                        refine done_ (done_of HT_.out (by kernel_rfl)) ?_
                                        try go_wp2
                                        go_roundg k8
                                        case measure => have := HJ4.out; have := HJ29.out; have := HJ50.out; have := HK4.out; have := HK5.out; have := HK6.out; have := HJ78.out; have := HK8.out; omega
                                        case rel => exact ⟨(wrap64 (x16_8 + 1)), (y285), (.slice (some ⟨go114, 0, none⟩) x268001_8.length co112), (by first | rfl | (simp; done) | (simp [*]; done)), H', ⟨by have := HJ4.out; have := HJ29.out; have := HJ50.out; have := HK4.out; have := HK5.out; have := HK6.out; have := HJ78.out; have := HK8.out; omega⟩, ⟨by (with_reducible repeat (first | apply Kd.R_alloc | apply Kd.R_drewN | apply Kd.R_drew)); exact Kd.R_mono (Kd.R_far (p := ⟨go114, (x16_8 : Int).toNat * 3 + 2, none⟩) (Kd.R_types HO_10.out GG116_.out (by decide)) (fun _ hk => hk.2) (.slice Ao118 y282.length co118)) (fun _ hk => hk.1)⟩, ⟨by (with_reducible repeat (first | apply Kd.R_alloc | apply Kd.R_drewN | apply Kd.R_drew)); exact Kd.R_mono (Kd.R_far (p := ⟨go114, (x16_8 : Int).toNat * 3 + 2, none⟩) (Kd.R_types HO_268000.out GG116_.out (by decide)) (fun _ hk => hk.2) (.slice Ao118 y282.length co118)) (fun _ hk => hk.1)⟩, ⟨by (with_reducible repeat (first | apply Kd.S_alloc | apply Kd.S_drewN | apply Kd.S_drew)); exact HQ116.out⟩, ⟨by (with_reducible repeat (first | refine blk_drewN ?_ _ | refine blk_drew ?_ | refine blk_alloc ?_ _)); refine blk_far ?_ HNB224_go114.out _; (with_reducible repeat (first | refine blk_drewN ?_ _ | refine blk_drew ?_ | refine blk_alloc ?_ _)); exact BK224.out⟩, ⟨by (with_reducible repeat (first | refine blk_drewN ?_ _ | refine blk_drew ?_ | refine blk_alloc ?_ _)); refine blk_far ?_ HNB267_go114.out _; (with_reducible repeat (first | refine blk_drewN ?_ _ | refine blk_drew ?_ | refine blk_alloc ?_ _)); exact BK267.out⟩, ⟨by repeat (first | (with_reducible first | exact HB.out | apply below_alloc | apply pw_below_drewN | apply below_drew1 | refine below_set ?_ GB114.out | refine below_set ?_ GE224.out | refine below_set ?_ GE267.out) | exact HB.out)⟩⟩
                                       ·rw [if_neg c108] at H
                                        exact absurd H (by simp)
                                      ·rw [if_neg c107] at H
                                       exact absurd H (by simp)
                                     ·rw [if_neg c106] at H
                                      exact absurd H (by simp)
                                    ·rw [if_neg c105] at H
                                     exact absurd H (by simp)
                                   ·rw [if_neg c104] at H
                                    exact absurd H (by simp)
                                  ·rw [if_neg c103] at H
                                   exact absurd H (by simp)
                                 ·rw [if_neg c102] at H
                                  exact absurd H (by simp)
                                ·rw [if_neg c101] at H
                                 have c101b0 : decide (x16_8 < (x268001_8.length : Int)) = false := decide_eq_false c101
                                 clear c101
                                 have H' := Aside0.mk H
                                 clear H
                                 have hnb119 := NB267_224.out
                                 have hnc119 := NB224_267.out
                                 have hcz120_0 : wr.cell? ⟨gb267, 0, none⟩ = some (.slice Ao99 y275.length co99) := (blk_cell BK267.out 0).trans rfl
                                 have hcz120_1 : wr.cell? ⟨gb267, 1, none⟩ = some (u268001) := (blk_cell BK267.out 1).trans rfl
                                 have hfz120_0 := blk_frozen BK267.out 0
                                 have hfz120_1 := blk_frozen BK267.out 1
                                 obtain ⟨Ao121, co121, eo121⟩ := Kd.S_slice HO_268001.out
                                 subst eo121
                                 go_wp2
                                 go_roundg k8
                                 case measure => have := HJ4.out; have := HJ29.out; have := HJ50.out; have := HK4.out; have := HK5.out; have := HK6.out; have := HJ78.out; have := HK8.out; omega
                                 case rel => exact ⟨(wrap64 (x15_6 + 1)), (y275), (x268001_8), (.slice Ao99 y275.length co99), (.slice Ao121 x268001_8.length co121), (by first | rfl | (simp; done) | (simp [*]; done)), H', ⟨by have := HJ4.out; have := HJ29.out; have := HJ50.out; have := HK4.out; have := HK5.out; have := HK6.out; have := HJ78.out; have := HK8.out; omega⟩, ⟨by (with_reducible repeat (first | apply Kd.R_alloc | apply Kd.R_drewN | apply Kd.R_drew)); exact HO_10.out⟩, ⟨by (with_reducible repeat (first | apply Kd.R_alloc | apply Kd.R_drewN | apply Kd.R_drew)); exact HO_268000.out⟩, ⟨by (with_reducible repeat (first | apply Kd.S_alloc | apply Kd.S_drewN | apply Kd.S_drew)); exact HO_268001.out⟩, ⟨by (with_reducible repeat (first | refine blk_drewN ?_ _ | refine blk_drew ?_ | refine blk_alloc ?_ _)); exact BK224.out⟩, ⟨by (with_reducible repeat (first | refine blk_drewN ?_ _ | refine blk_drew ?_ | refine blk_alloc ?_ _)); exact BK267.out⟩, ⟨by repeat (first | (with_reducible first | exact HB.out | apply below_alloc | apply pw_below_drewN | apply below_drew1 | refine below_set ?_ GE224.out | refine below_set ?_ GE267.out) | exact HB.out)⟩⟩
                             ·rw [if_neg c96] at H
                              exact absurd H (by simp)
                            ·rw [if_neg c95] at H
                             exact absurd H (by simp)
                           ·rw [if_neg c94] at H
                            exact absurd H (by simp)
                          ·rw [if_neg c93] at H
                           exact absurd H (by simp)
                         ·rw [if_neg c92] at H
                          exact absurd H (by simp)
                    ·rw [if_neg c78] at H
                     have c78b0 : decide (x15_6 < (t256.length : Int)) = false := decide_eq_false c78
                     clear c78
                     by_cases c122 : (x268000_6.length : Int) = 0
                     ·rw [if_pos c122] at H
                      have c122b0 : ((x268000_6.length : Int) == 0) = true := beq_iff_eq.mpr c122
                      have c122b1 : ((x268000_6.length : Int) != 0) = false := bne_eq_false_iff_eq.mpr c122
                      clear c122
                      have H' := Aside0.mk H
                      clear H
                      have hnb123 := NB267_224.out
                      have hnc123 := NB224_267.out
                      have hcz124_0 : wr.cell? ⟨gb267, 0, none⟩ = some (u268000) := (blk_cell BK267.out 0).trans rfl
                      have hcz124_1 : wr.cell? ⟨gb267, 1, none⟩ = some (u268001) := (blk_cell BK267.out 1).trans rfl
                      have hfz124_0 := blk_frozen BK267.out 0
                      have hfz124_1 := blk_frozen BK267.out 1
                      obtain ⟨Ao125, co125, eo125⟩ := Kd.R_slice HO_268000.out
                      subst eo125
                      go_wp2
                      go_roundg k6
                      case measure => have := HJ4.out; have := HJ29.out; have := HJ50.out; have := HK4.out; have := HK5.out; have := HK6.out; omega
                      case rel => exact ⟨(wrap64 (x12_4 + 1)), (by first | rfl | (simp; done) | (simp [*]; done)), H', ⟨by have := HJ4.out; have := HJ29.out; have := HJ50.out; have := HK4.out; have := HK5.out; have := HK6.out; omega⟩, ⟨by (with_reducible repeat (first | apply Kd.R_alloc | apply Kd.R_drewN | apply Kd.R_drew)); exact Kd.R_mono HO_10.out (fun _ hk => trivial)⟩, ⟨by (with_reducible repeat (first | refine blk_drewN ?_ _ | refine blk_drew ?_ | refine blk_alloc ?_ _)); exact BK224.out⟩, ⟨by repeat (first | (with_reducible first | exact HB.out | apply below_alloc | apply pw_below_drewN | apply below_drew1 | refine below_set ?_ GE224.out | refine below_set ?_ GE267.out) | exact HB.out)⟩⟩
                     ·rw [if_neg c122] at H
                      have c122b0 : ((x268000_6.length : Int) == 0) = false := beq_eq_false_iff_ne.mpr c122
                      have c122b1 : ((x268000_6.length : Int) != 0) = true := bne_iff_ne.mpr c122
                      have c122b2 : ¬ (x268000_6 = []) := fun h_ => c122 (by rw [h_]; rfl)
                      replace H := Option.bind_eq_some_iff.mp H
                      obtain ⟨⟨t286, t289⟩, A1260, H⟩ := H
                      replace H : (if ((t289 == 0) != (decide (x12_4 ≥ 0))) = true then (some false) else (cobblelaw07_FlatKept.l0 k6 a1 t256 (wrap64 (x12_4 + 1)) l0_0 l0_1)) = some r := H
                      have A126 := Aside0.mk A1260
                      clear A1260
                      by_cases c127 : ((t289 == 0) != (decide (x12_4 ≥ 0))) = true
                      ·rw [if_pos c127] at H
                       have c127b0 : ((t289 == 0) != (decide (x12_4 ≥ 0))) = true := c127
                       (try (have c127b1 : decide ((t289 == 0) = (decide (x12_4 ≥ 0))) = false := by simpa using c127))
                       (try (have c127b2 : ((t289 == 0) == (decide (x12_4 ≥ 0))) = false := by simpa using c127))
                       (try (have c127b3 : ¬ ((t289 == 0) = (decide (x12_4 ≥ 0))) := by simpa using c127))
                       clear c127
                       obtain rfl := Option.some.inj H
                       have hnb128 := NB267_224.out
                       have hnc128 := NB224_267.out
                       have hcz129_0 : wr.cell? ⟨gb267, 0, none⟩ = some (u268000) := (blk_cell BK267.out 0).trans rfl
                       have hcz129_1 : wr.cell? ⟨gb267, 1, none⟩ = some (u268001) := (blk_cell BK267.out 1).trans rfl
                       have hfz129_0 := blk_frozen BK267.out 0
                       have hfz129_1 := blk_frozen BK267.out 1
                       obtain ⟨Ao130, co130, eo130⟩ := Kd.R_slice HO_268000.out
                       subst eo130
                       obtain ⟨Ao131, co131, eo131⟩ := Kd.S_slice HO_268001.out
                       subst eo131
                       go_wp2_with (first | ((with_reducible refine gate_callee (f := 12) rfl ?_); refine goesL_ (some 201) rfl rfl Try.func12 (by kernel_rfl) rfl #[.agg #[.slice Ao130 x268000_6.length co130, .slice Ao131 x268001_6.length co131], .int .i64 a1] rfl (by (try simp only [List.map_toArray, List.map_cons, List.map_nil]); first | done | rfl | (simp only [List.length_drop, List.length_take]; rfl)) ?_; (with_reducible refine (flat_FirstWithin.calls _ _ x268000_6 _ _ x268001_6 a1 t286 t289 _ ?side1 ?side2 ?side3 ?side4 A126.out).mono ?_); (case side1 => repeat (first | exact (Kd.R_reads' HO_268000.out).2.2 | (with_reducible refine Kd.C_alloc ?_ _) | (with_reducible refine Kd.C_drewN ?_ _) | (with_reducible refine Kd.C_drew ?_))); (case side2 => exact (Kd.R_reads' HO_268000.out).2.1); (case side3 => repeat (first | exact (Kd.S_reads' HO_268001.out).2.2 | (with_reducible refine Kd.C_alloc ?_ _) | (with_reducible refine Kd.C_drewN ?_ _) | (with_reducible refine Kd.C_drew ?_))); (case side4 => exact (Kd.S_reads' HO_268001.out).2.1); rintro e w132 ⟨v287, rfl, ho0, hb⟩; refine ⟨_, rfl, ?_⟩; have n0_ := Aside0.mk (Kd.R_elder' (by (with_reducible repeat (first | apply Kd.R_alloc | apply Kd.R_drewN | apply Kd.R_drew)); exact HO_10.out) (Kd.R_base ho0) hb); have n1_ := Aside0.mk (Kd.R_elder' (by (with_reducible repeat (first | apply Kd.R_alloc | apply Kd.R_drewN | apply Kd.R_drew)); exact HO_268000.out) (Kd.R_base ho0) hb); have n2_ := Aside0.mk (Kd.S_elder' (by (with_reducible repeat (first | apply Kd.S_alloc | apply Kd.S_drewN | apply Kd.S_drew)); exact HO_268001.out) (Kd.R_base ho0) hb); have n3_ := Aside0.mk (Kd.R_lower (Kd.R_new' (Kd.R_new' ho0 (Kd.R_lt (by (with_reducible repeat (first | apply Kd.R_alloc | apply Kd.R_drewN | apply Kd.R_drew)); exact HO_10.out))) (Kd.R_lt (by (with_reducible repeat (first | apply Kd.R_alloc | apply Kd.R_drewN | apply Kd.R_drew)); exact HO_268000.out))) (below_size (by repeat (first | (with_reducible first | exact HB.out | apply below_alloc | apply pw_below_drewN | apply below_drew1 | refine below_set ?_ GE224.out | refine below_set ?_ GE267.out) | exact HB.out)))); have n4_ := Aside0.mk (blk_below (g := gb224) (o := .cells #[.slice A0_0 l0_0.length c0_0, .slice A0_1 l0_1.length c0_1] 25 (0, 0)) (by (with_reducible repeat (first | refine blk_drewN ?_ _ | refine blk_drew ?_ | refine blk_alloc ?_ _)); exact BK224.out) hb); have n5_ := Aside0.mk (blk_below (g := gb267) (o := .cells #[.slice Ao130 x268000_6.length co130, .slice Ao131 x268001_6.length co131] 25 (0, 0)) (by (with_reducible repeat (first | refine blk_drewN ?_ _ | refine blk_drew ?_ | refine blk_alloc ?_ _)); exact BK267.out) hb); have n6_ := Aside0.mk (below_step (by repeat (first | (with_reducible first | exact HB.out | apply below_alloc | apply pw_below_drewN | apply below_drew1 | refine below_set ?_ GE224.out | refine below_set ?_ GE267.out) | exact HB.out)) hb); clear HO_10; clear HO_268000; clear HO_268001; clear BK224; clear BK267; clear HB; have HO_10 := n0_; have HO_268000 := n1_; have HO_268001 := n2_; have HO288 := n3_; have BK224 := n4_; have BK267 := n5_; have HB := n6_; clear n0_ n1_ n2_ n3_ n4_ n5_ n6_; (try clear hb); (try clear hb2); (try clear hk); (try clear hi); (try clear ho0)))
                       go_ret
                       exact ⟨by first | rfl | (simp [errW_none, errW_some] <;> rfl) | (simp [*, errW_none, errW_some] <;> rfl), by repeat (first | (with_reducible first | exact HB.out | apply below_alloc | apply pw_below_drewN | apply below_drew1 | refine below_set ?_ GE224.out | refine below_set ?_ GE267.out) | exact HB.out)⟩
                      ·rw [if_neg c127] at H
                       have c127b0 : ((t289 == 0) != (decide (x12_4 ≥ 0))) = false := by simpa using c127
                       (try (have c127b1 : decide ((t289 == 0) = (decide (x12_4 ≥ 0))) = true := by simpa using c127))
                       (try (have c127b2 : ((t289 == 0) == (decide (x12_4 ≥ 0))) = true := by simpa using c127))
                       clear c127
                       have H' := Aside0.mk H
                       clear H
                       have hnb133 := NB267_224.out
                       have hnc133 := NB224_267.out
                       have hcz134_0 : wr.cell? ⟨gb267, 0, none⟩ = some (u268000) := (blk_cell BK267.out 0).trans rfl
                       have hcz134_1 : wr.cell? ⟨gb267, 1, none⟩ = some (u268001) := (blk_cell BK267.out 1).trans rfl
                       have hfz134_0 := blk_frozen BK267.out 0
                       have hfz134_1 := blk_frozen BK267.out 1
                       obtain ⟨Ao135, co135, eo135⟩ := Kd.R_slice HO_268000.out
                       subst eo135
                       obtain ⟨Ao136, co136, eo136⟩ := Kd.S_slice HO_268001.out
                       subst eo136
                       go_wp2_with (first | ((with_reducible refine gate_callee (f := 12) rfl ?_); refine goesL_ (some 201) rfl rfl Try.func12 (by kernel_rfl) rfl #[.agg #[.slice Ao135 x268000_6.length co135, .slice Ao136 x268001_6.length co136], .int .i64 a1] rfl (by (try simp only [List.map_toArray, List.map_cons, List.map_nil]); first | done | rfl | (simp only [List.length_drop, List.length_take]; rfl)) ?_; (with_reducible refine (flat_FirstWithin.calls _ _ x268000_6 _ _ x268001_6 a1 t286 t289 _ ?side1 ?side2 ?side3 ?side4 A126.out).mono ?_); (case side1 => repeat (first | exact (Kd.R_reads' HO_268000.out).2.2 | (with_reducible refine Kd.C_alloc ?_ _) | (with_reducible refine Kd.C_drewN ?_ _) | (with_reducible refine Kd.C_drew ?_))); (case side2 => exact (Kd.R_reads' HO_268000.out).2.1); (case side3 => repeat (first | exact (Kd.S_reads' HO_268001.out).2.2 | (with_reducible refine Kd.C_alloc ?_ _) | (with_reducible refine Kd.C_drewN ?_ _) | (with_reducible refine Kd.C_drew ?_))); (case side4 => exact (Kd.S_reads' HO_268001.out).2.1); rintro e w137 ⟨v287, rfl, ho0, hb⟩; refine ⟨_, rfl, ?_⟩; have n0_ := Aside0.mk (Kd.R_elder' (by (with_reducible repeat (first | apply Kd.R_alloc | apply Kd.R_drewN | apply Kd.R_drew)); exact HO_10.out) (Kd.R_base ho0) hb); have n1_ := Aside0.mk (Kd.R_elder' (by (with_reducible repeat (first | apply Kd.R_alloc | apply Kd.R_drewN | apply Kd.R_drew)); exact HO_268000.out) (Kd.R_base ho0) hb); have n2_ := Aside0.mk (Kd.S_elder' (by (with_reducible repeat (first | apply Kd.S_alloc | apply Kd.S_drewN | apply Kd.S_drew)); exact HO_268001.out) (Kd.R_base ho0) hb); have n3_ := Aside0.mk (Kd.R_lower (Kd.R_new' (Kd.R_new' ho0 (Kd.R_lt (by (with_reducible repeat (first | apply Kd.R_alloc | apply Kd.R_drewN | apply Kd.R_drew)); exact HO_10.out))) (Kd.R_lt (by (with_reducible repeat (first | apply Kd.R_alloc | apply Kd.R_drewN | apply Kd.R_drew)); exact HO_268000.out))) (below_size (by repeat (first | (with_reducible first | exact HB.out | apply below_alloc | apply pw_below_drewN | apply below_drew1 | refine below_set ?_ GE224.out | refine below_set ?_ GE267.out) | exact HB.out)))); have n4_ := Aside0.mk (blk_below (g := gb224) (o := .cells #[.slice A0_0 l0_0.length c0_0, .slice A0_1 l0_1.length c0_1] 25 (0, 0)) (by (with_reducible repeat (first | refine blk_drewN ?_ _ | refine blk_drew ?_ | refine blk_alloc ?_ _)); exact BK224.out) hb); have n5_ := Aside0.mk (blk_below (g := gb267) (o := .cells #[.slice Ao135 x268000_6.length co135, .slice Ao136 x268001_6.length co136] 25 (0, 0)) (by (with_reducible repeat (first | refine blk_drewN ?_ _ | refine blk_drew ?_ | refine blk_alloc ?_ _)); exact BK267.out) hb); have n6_ := Aside0.mk (below_step (by repeat (first | (with_reducible first | exact HB.out | apply below_alloc | apply pw_below_drewN | apply below_drew1 | refine below_set ?_ GE224.out | refine below_set ?_ GE267.out) | exact HB.out)) hb); clear HO_10; clear HO_268000; clear HO_268001; clear BK224; clear BK267; clear HB; have HO_10 := n0_; have HO_268000 := n1_; have HO_268001 := n2_; have HO288 := n3_; have BK224 := n4_; have BK267 := n5_; have HB := n6_; clear n0_ n1_ n2_ n3_ n4_ n5_ n6_; (try clear hb); (try clear hb2); (try clear hk); (try clear hi); (try clear ho0)))
                       go_roundg k6
                       case measure => have := HJ4.out; have := HJ29.out; have := HJ50.out; have := HK4.out; have := HK5.out; have := HK6.out; omega
                       case rel => exact ⟨(wrap64 (x12_4 + 1)), (by first | rfl | (simp; done) | (simp [*]; done)), H', ⟨by have := HJ4.out; have := HJ29.out; have := HJ50.out; have := HK4.out; have := HK5.out; have := HK6.out; omega⟩, ⟨by (with_reducible repeat (first | apply Kd.R_alloc | apply Kd.R_drewN | apply Kd.R_drew)); exact Kd.R_mono HO_10.out (fun _ hk => trivial)⟩, ⟨by (with_reducible repeat (first | refine blk_drewN ?_ _ | refine blk_drew ?_ | refine blk_alloc ?_ _)); exact BK224.out⟩, ⟨by repeat (first | (with_reducible first | exact HB.out | apply below_alloc | apply pw_below_drewN | apply below_drew1 | refine below_set ?_ GE224.out | refine below_set ?_ GE267.out) | exact HB.out)⟩⟩
              ·rw [if_neg c58] at H
               have c58b0 : decide (x12_4 < (t256.length : Int)) = false := decide_eq_false c58
               clear c58
               obtain rfl := Option.some.inj H
               obtain ⟨Ao138, co138, eo138⟩ := Kd.R_slice HO_10.out
               subst eo138
               go_wp2
               go_ret
               exact ⟨by first | rfl | (simp [errW_none, errW_some] <;> rfl) | (simp [*, errW_none, errW_some] <;> rfl), by repeat (first | (with_reducible first | exact HB.out | apply below_alloc | apply pw_below_drewN | apply below_drew1 | refine below_set ?_ GE224.out) | exact HB.out)⟩
 ·replace c4 := Bool.eq_false_iff.mpr c4
  subst c4
  have H1 : (some false) = some r := by rw [if_neg (show ¬ (false = true) by decide)] at H; exact H
  clear H
  have H := H1
  clear H1
  obtain rfl := Option.some.inj H
  go_enter Try.func3, Try.ntmps3
  go_wp2_with (first | ((with_reducible refine gate_dst (N := 2) rfl ?_); (try (refine gate_guard (by rfl) ?_; dsimp only)); refine box_event ?hg (N := 2) ?hd (cs := #[.slice A0_0 l0_0.length c0_0, .slice A0_1 l0_1.length c0_1]) (t := 25) ?hr ?_; (case hd => rfl); (case hg => rfl); (case hr => first | (go_simp; done) | (go_simp; rfl)); intro gb224 hg w139 hbox hb; have n0_ := Aside0.mk (below_step (by repeat (first | (with_reducible first | exact HB.out | apply below_alloc | apply pw_below_drewN | apply below_drew1) | exact HB.out)) hb); have n1_ := Aside0.mk (hbox); have n2_ := Aside0.mk ((by rw [hg]; exact (below_size (by repeat (first | (with_reducible first | exact HB.out | apply below_alloc | apply pw_below_drewN | apply below_drew1) | exact HB.out))) : w.heap.size ≤ gb224)); have n3_ := Aside0.mk ((by rw [hg]; exact (below_size (by repeat (first | (with_reducible first | exact HB.out | apply below_alloc | apply pw_below_drewN | apply below_drew1) | exact HB.out))) : w.heap.size ≤ gb224)); clear HB; have HB := n0_; have BK224 := n1_; have GW224 := n2_; have GE224 := n3_; clear n0_ n1_ n2_ n3_; clear hb hbox hg) | ((with_reducible refine gate_callee (f := 6) rfl ?_); refine goesL_ (some 19) rfl rfl Try.func6 (by kernel_rfl) rfl #[] rfl (by (try simp only [List.map_toArray, List.map_cons, List.map_nil]); first | done | rfl | (simp only [List.length_drop, List.length_take]; rfl)) ?_; (with_reducible refine (cobblelaw07_awake.calls  false _ A3.out).mono ?_); rintro e w140 ⟨rfl, hb⟩; refine ⟨_, rfl, ?_⟩; have n0_ := Aside0.mk (blk_below (g := gb224) (o := .cells #[.slice A0_0 l0_0.length c0_0, .slice A0_1 l0_1.length c0_1] 25 (0, 0)) (by (with_reducible repeat (first | refine blk_drewN ?_ _ | refine blk_drew ?_ | refine blk_alloc ?_ _)); exact BK224.out) hb); have n1_ := Aside0.mk (below_step (by repeat (first | (with_reducible first | exact HB.out | apply below_alloc | apply pw_below_drewN | apply below_drew1 | refine below_set ?_ GE224.out) | exact HB.out)) hb); clear BK224; clear HB; have BK224 := n0_; have HB := n1_; clear n0_ n1_; (try clear hb); (try clear hb2); (try clear hk); (try clear hi)))
  go_ret
  exact ⟨by first | rfl | (simp [errW_none, errW_some] <;> rfl) | (simp [*, errW_none, errW_some] <;> rfl), by repeat (first | (with_reducible first | exact HB.out | apply below_alloc | apply pw_below_drewN | apply below_drew1 | refine below_set ?_ GE224.out) | exact HB.out)⟩


end Go.Proofs.Ytbijfhmpafjceaa.PFlatKept
