import Derived.Test.YtbijfhmpafjceaaE1
import Derived.WalkLawsBesides
import Derived.WalkSpells
set_option linter.unusedVariables false
set_option linter.unusedSimpArgs false
namespace Go.Proofs.Ytbijfhmpafjceaa.E
open Go.RowKit Go.Proofs.YtbijfhmpafjceaaW.PrintWords

/-- No error, if something holds. -/
def unl (b : Bool) (e : Int) : Int := if b then 0 else e
/-- Is the size of x at most m? -/
def sml (m x : Int) : Bool := decide (-m ≤ x) && decide (x ≤ m)

theorem small_any (x m : Int) (w : World) (h0 : 0 ≤ m) (h1 : m ≤ 1000000000) :
    Calls Try.prog 88 #[.int .i64 x, .int .i64 m] w fun e w' => e = .returned (.bool (sml m x)) ∧ w = w' := by
  by_cases c1 : -m ≤ x <;> by_cases c2 : x ≤ m
  all_goals
    go_enter Try.func88, Try.ntmps88
    go_wp2
    go_ret
    exact ⟨by simp [sml, *], rfl⟩

theorem sized1 (x m : Int) (b : Nat) (w : World) (h0 : 0 ≤ m) (h1 : m ≤ 1000000000) (hc : w.cell? ⟨b, 0, none⟩ = some (.int .i64 m)) :
    Calls Try.prog 128 (#[.int .i64 x] ++ #[.pointer (some ⟨b, 0, none⟩)]) w fun e w' => e = .returned (.bool (sml m x)) ∧ w = w' := by
  go_enter Try.func128, Try.ntmps128
  go_wp2_with (go_at_call 88; refine (small_any _ _ _ h0 h1).mono ?_; rintro e w' ⟨rfl, rfl⟩)
  go_ret
  exact ⟨rfl, rfl⟩

/-- 'sized': a function value that answers what sml does. -/
theorem sized_any (m : Int) (w : World) (h0 : 0 ≤ m) (h1 : m ≤ 1000000000) :
    Calls Try.prog 83 #[.int .i64 m] w fun e w' => e = .returned (.func (.func 128) #[] #[.pointer (some ⟨w.heap.size, 0, none⟩)]) ∧ w.alloc (.cells #[.int .i64 m] 3) = w' := by
  go_enter Try.func83, Try.ntmps83
  go_wp2
  go_ret
  exact ⟨rfl, rfl⟩

theorem pred_sized (m : Int) (w : World) (h0 : 0 ≤ m) (h1 : m ≤ 1000000000) (b : Nat) (hb : b < w.heap.size) (hc : w.cell? ⟨b, 0, none⟩ = some (.int .i64 m)) :
    Pred 128 #[.pointer (some ⟨b, 0, none⟩)] (sml m) w := by
  intro W x hB
  exact sized1 x m b W h0 h1 ((hB.cell (p := ⟨b, 0, none⟩) hb).trans hc)

theorem eg128 : ∀ args w, (callFunc 128 args).run Try.prog w = .ok (.enter 128 args) w := enters_of Try.func128 (by kernel_rfl) rfl
theorem eg127 : ∀ args w, (callFunc 127 args).run Try.prog w = .ok (.enter 127 args) w := enters_of Try.func127 (by kernel_rfl) rfl

/-- The literal inside of 'all': not what is held. -/
theorem all1 (g : Nat) (lb : Array Value) (p : Int → Bool) (x : Int) (b : Nat) (W : World) (hc : W.cell? ⟨b, 0, none⟩ = some (.func (.func g) #[] lb))
    (hp : Calls Try.prog g (#[.int .i64 x] ++ lb) W fun e w' => e = .returned (.bool (p x)) ∧ W = w') (eg : ∀ args w, (callFunc g args).run Try.prog w = .ok (.enter g args) w) :
    Calls Try.prog 127 (#[.int .i64 x] ++ #[.pointer (some ⟨b, 0, none⟩)]) W fun e w' => e = .returned (.bool (!p x)) ∧ W = w' := by
  have HP := Aside0.mk hp
  clear hp
  have he := eg
  go_enter Try.func127, Try.ntmps127
  go_wp2_with (go_at_fn g; refine HP.out.mono ?_; rintro e w' ⟨rfl, rfl⟩)
  go_ret
  exact ⟨rfl, rfl⟩

theorem all_any (g : Nat) (lb : Array Value) (p : Int → Bool) (A : Option Addr) (c : Nat) (l : List Int) (er : Int) (w : World)
    (hr : Kd.C (Kd.int .i64) w A l.length l) (hp : Pred g lb p w) (eg : ∀ args w, (callFunc g args).run Try.prog w = .ok (.enter g args) w) :
    Calls Try.prog 80 #[.slice A l.length c, .int .i64 er, .func (.func g) #[] lb] w fun e w' => e = .returned (.int .i64 (unl (l.all p) er)) ∧ w.alloc (.cells #[.func (.func g) #[] lb] 116) = w' := by
  have HR := Aside0.mk hr
  have HP := Aside0.mk hp
  have EG := Aside0.mk eg
  clear hr hp eg
  have HX := fun (W : World) (hW : Below w.heap.size w W) (hb : w.heap.size < W.heap.size) (hc : W.cell? ⟨w.heap.size, 0, none⟩ = some (.func (.func g) #[] lb)) =>
    ContainsFunc 127 #[.pointer (some ⟨w.heap.size, 0, none⟩)] (fun x => !p x) A c l W (Kd.C_below HR.out hW)
      (fun W' x hW' => all1 g lb p x w.heap.size W' ((hW'.cell (p := ⟨w.heap.size, 0, none⟩) hb).trans hc) (HP.out W' x (hW.trans (hW'.mono hW.size))) EG.out) eg127
  have HX := Aside0.mk HX
  have hany : l.any (fun x => !p x) = !l.all p := by rw [List.not_all_eq_any_not]
  cases hb : l.all p with
  | true =>
    rw [hb] at hany
    have HA := Aside0.mk hany
    clear hany hb
    go_enter Try.func80, Try.ntmps80
    go_wp2_with (first | (go_at_call 126; refine (HX.out _ ((Below.refl _ w).alloc (Nat.le_refl _) _) (by simp) (by simp)).mono ?_; rw [HA.out]; rintro e w' ⟨rfl, rfl⟩) | go_in)
    go_ret
    exact ⟨rfl, rfl⟩
  | false =>
    rw [hb] at hany
    have HA := Aside0.mk hany
    clear hany hb
    go_enter Try.func80, Try.ntmps80
    go_wp2_with (first | (go_at_call 126; refine (HX.out _ ((Below.refl _ w).alloc (Nat.le_refl _) _) (by simp) (by simp)).mono ?_; rw [HA.out]; rintro e w' ⟨rfl, rfl⟩) | go_in)
    go_ret
    exact ⟨rfl, rfl⟩
end Go.Proofs.Ytbijfhmpafjceaa.E
