import Derived.Test.YtbijfhmpafjceaaE14
set_option linter.unusedSimpArgs false
set_option linter.unusedVariables false
namespace Go.Proofs.Ytbijfhmpafjceaa.E
open Go.RowKit Go.Proofs.YtbijfhmpafjceaaW.PrintWords Go.Proofs.YtbijfhmpafjceaaW.PrintMore Go.Proofs.Ytbijfhmpafjceaa.PFlatKept

/-! CheckProfile. -/
def inR (lo hi x : Int) : Bool := decide (lo ≤ x) && decide (x ≤ hi)
theorem within_at (x lo hi : Int) (w : World) : Calls Try.prog 87 #[.int .i64 x, .int .i64 lo, .int .i64 hi] w fun e w' => e = .returned (.bool (inR lo hi x)) ∧ w = w' := by
  by_cases c1 : lo ≤ x <;> by_cases c2 : x ≤ hi
  all_goals
    go_enter Try.func87, Try.ntmps87
    go_wp2
    go_ret
    exact ⟨by simp [inR, *], rfl⟩
theorem within_quiet (x lo hi : Int) (w : World) : Calls Try.prog 87 #[.int .i64 x, .int .i64 lo, .int .i64 hi] w fun e w' => e = .returned (.bool (inR lo hi x)) ∧ w = w' := within_at x lo hi w
theorem prof1 (x : Int) (w : World) : Calls Try.prog 123 #[.int .i64 x] w fun e w' => e = .returned (.bool (inR 1 100000 x)) ∧ w = w' := by
  go_enter Try.func123, Try.ntmps123
  go_wp2_with (go_at_call 87; refine (within_at _ _ _ _).mono ?_; rintro e w' ⟨rfl, rfl⟩)
  go_ret
  exact ⟨rfl, rfl⟩
theorem eg123 : ∀ args w, (callFunc 123 args).run Try.prog w = .ok (.enter 123 args) w := enters_of Try.func123 (by kernel_rfl) rfl
theorem pred_prof (w : World) : Pred 123 #[] (inR 1 100000) w := fun W x _ => prof1 x W
def profE (p : List Int) : Int := fst1 [unl (decide (3 ≤ p.length) && decide (p.length % 2 = 1)) 10, unl (decide ((p.length : Int) ≤ 9)) 8, unl (p.all (inR 1 100000)) 2]

set_option maxHeartbeats 1200000 in
theorem CheckProfile_any (A : Option Addr) (c : Nat) (p : List Int) (w : World) (hr : Kd.C (Kd.int .i64) w A p.length p) :
    Calls Try.prog 77 #[.slice A p.length c] w fun e w' => e = .returned (.int .i64 (profE p)) ∧ Below w.heap.size w w' := by
  have HR := Aside0.mk hr
  have hm := Kd.C_max hr
  clear hr
  by_cases h3 : 3 ≤ p.length
  · by_cases h2 : p.length % 2 = 1
    · have HE : Aside0 (profE p = fst1 [unl true 10, unl (decide ((p.length : Int) ≤ 9)) 8, unl (p.all (inR 1 100000)) 2]) := ⟨by simp only [profE, h3, h2, decide_true, Bool.and_self]⟩
      have g2 : ((p.length : Int) % 2 == 1) = true := by rw [beq_iff_eq]; omega
      clear h2
      go_enter Try.func77, Try.ntmps77
      go_wp2_with (first | (go_at_call 42; refine (unless_any _ _ _).mono ?_; rintro e w' ⟨rfl, rfl⟩) | (go_at_call 80; refine (all_any 123 #[] (inR 1 100000) A c p 2 _ HR.out (pred_prof _) eg123).mono ?_; rintro e w' ⟨rfl, rfl⟩) | (go_at_call 82; refine (first3 _ _ _ _ (w.alloc (.cells #[.func (.func 123) #[] #[]] 116)) (by simp)).mono ?_; rintro e w' ⟨rfl, q, rfl⟩))
      go_ret
      exact ⟨by rw [HE.out]; rfl, pw_below_drewN (below_alloc (below_alloc (Below.refl _ _) _) _) _⟩
    · have HE : Aside0 (profE p = fst1 [unl false 10, unl (decide ((p.length : Int) ≤ 9)) 8, unl (p.all (inR 1 100000)) 2]) := ⟨by simp only [profE, h2, decide_false, Bool.and_false]⟩
      have g2 : ((p.length : Int) % 2 == 1) = false := by rw [beq_eq_false_iff_ne]; omega
      clear h2
      go_enter Try.func77, Try.ntmps77
      go_wp2_with (first | (go_at_call 42; refine (unless_any _ _ _).mono ?_; rintro e w' ⟨rfl, rfl⟩) | (go_at_call 80; refine (all_any 123 #[] (inR 1 100000) A c p 2 _ HR.out (pred_prof _) eg123).mono ?_; rintro e w' ⟨rfl, rfl⟩) | (go_at_call 82; refine (first3 _ _ _ _ (w.alloc (.cells #[.func (.func 123) #[] #[]] 116)) (by simp)).mono ?_; rintro e w' ⟨rfl, q, rfl⟩))
      go_ret
      exact ⟨by rw [HE.out]; rfl, pw_below_drewN (below_alloc (below_alloc (Below.refl _ _) _) _) _⟩
  · have HE : Aside0 (profE p = fst1 [unl false 10, unl (decide ((p.length : Int) ≤ 9)) 8, unl (p.all (inR 1 100000)) 2]) := ⟨by simp only [profE, h3, decide_false, Bool.false_and]⟩
    go_enter Try.func77, Try.ntmps77
    go_wp2_with (first | (go_at_call 42; refine (unless_any _ _ _).mono ?_; rintro e w' ⟨rfl, rfl⟩) | (go_at_call 80; refine (all_any 123 #[] (inR 1 100000) A c p 2 _ HR.out (pred_prof _) eg123).mono ?_; rintro e w' ⟨rfl, rfl⟩) | (go_at_call 82; refine (first3 _ _ _ _ (w.alloc (.cells #[.func (.func 123) #[] #[]] 116)) (by simp)).mono ?_; rintro e w' ⟨rfl, q, rfl⟩))
    go_ret
    exact ⟨by rw [HE.out]; rfl, pw_below_drewN (below_alloc (below_alloc (Below.refl _ _) _) _) _⟩
end Go.Proofs.Ytbijfhmpafjceaa.E
