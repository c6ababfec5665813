import Derived.Test.YtbijfhmpafjceaaProg
import Derived.Test.YtbijfhmpafjceaaWWords
import Derived.Test.YtbijfhmpafjceaaK1
import Derived.Shelf.Abstract
set_option linter.unusedVariables false
set_option linter.unusedSimpArgs false
namespace Go.Proofs.Ytbijfhmpafjceaa.E
open Go.RowKit Go.Proofs.YtbijfhmpafjceaaW.PrintWords

/-- A function value of one whole number that answers a bool, and leaves the world alone. -/
def Pred (g : Nat) (lb : Array Value) (p : Int → Bool) (w : World) : Prop :=
  ∀ (W : World) (x : Int), Below w.heap.size w W → Calls Try.prog g (#[.int .i64 x] ++ lb) W fun e w' => e = .returned (.bool (p x)) ∧ W = w'

/-- The first index from i on at which p holds, or -1. -/
def idx (p : Int → Bool) (l : List Int) : Int := if l.any p then (l.findIdx p : Int) else -1

theorem IndexFunc (g : Nat) (lb : Array Value) (p : Int → Bool) (A : Option Addr) (c : Nat) (l : List Int) (w : World)
    (hr : Kd.C (Kd.int .i64) w A l.length l) (hp : Pred g lb p w) (eg : ∀ args w, (callFunc g args).run Try.prog w = .ok (.enter g args) w) :
    Calls Try.prog 57 #[.slice A l.length c, .func (.func g) #[] lb] w fun e w' => e = .returned (.int .i64 (idx p l)) ∧ w = w' := by
  have hr1 := Kd.reads_of_C (d := (0 : Int)) hr
  have hl := hr1.2.1
  clear hr
  have HR := Aside0.mk hr1
  have HP := Aside0.mk hp
  clear hr1 hp
  go_enter Try.func57, Try.ntmps57
  go_wp2
  go_loop [5, 8] (fun _ i => ∃ k : Nat, k ≤ l.length ∧ i = .int .i64 k ∧ Aside0 ((l.take k).any p = false)) (fun _ i => l.length - (intOf i).toNat)
  case atStart => exact ⟨0, Nat.zero_le _, rfl, ⟨by simp⟩⟩
  case round =>
    obtain ⟨k, hk, rfl, HN⟩ := hrel
    by_cases hlt : k < l.length
    · obtain ⟨ad, hA, hcell⟩ := HR.out.at_ (k : Int) (by omega) (by omega)
      subst hA
      simp only [Int.toNat_natCast] at hcell
      have hpx := HP.out w (rdOf 0 l (k : Int)) (Below.refl _ _)
      have hg : rdOf 0 l (k : Int) = l[k] := by simp [rdOf, List.getD_eq_getElem?_getD, hlt]
      rw [hg] at hpx hcell
      clear hg
      have HPX := Aside0.mk hpx
      clear hpx
      have he := eg
      cases hb : p l[k] with
      | true =>
        rw [hb] at HPX
        have HE : Aside0 (idx p l = k) := ⟨by
          unfold idx
          rw [if_pos (List.any_eq_true.2 ⟨_, List.getElem_mem hlt, hb⟩)]
          congr 1
          rw [List.findIdx_eq hlt]
          refine ⟨hb, fun j hj => ?_⟩
          have := HN.out
          rw [List.any_eq_false] at this
          have h2 := this (l[j]'(by omega)) (List.mem_iff_getElem.2 ⟨j, by simp; omega, by simp⟩)
          simpa using h2⟩
        clear hb
        go_wp2_with (go_at_fn g; refine HPX.out.mono ?_; rintro e w' ⟨rfl, rfl⟩)
        go_ret
        exact ⟨by rw [HE.out]; rfl, rfl⟩
      | false =>
        rw [hb] at HPX
        have HN2 : Aside0 ((l.take (k + 1)).any p = false) := ⟨by
          rw [List.take_succ_eq_append_getElem hlt, List.any_append, HN.out]
          simp [hb]⟩
        clear hb
        go_wp2_with (go_at_fn g; refine HPX.out.mono ?_; rintro e w' ⟨rfl, rfl⟩)
        go_round
        case rel => exact ⟨k + 1, by omega, by go_num, HN2⟩
        case measure => simp [intOf]; omega
    · have HE : Aside0 (idx p l = -1) := ⟨by
        have h2 := HN.out
        rw [List.take_of_length_le (by omega)] at h2
        simp [idx, h2]⟩
      go_wp2
      go_ret
      exact ⟨by rw [HE.out]; rfl, rfl⟩

theorem ContainsFunc (g : Nat) (lb : Array Value) (p : Int → Bool) (A : Option Addr) (c : Nat) (l : List Int) (w : World)
    (hr : Kd.C (Kd.int .i64) w A l.length l) (hp : Pred g lb p w) (eg : ∀ args w, (callFunc g args).run Try.prog w = .ok (.enter g args) w) :
    Calls Try.prog 126 #[.slice A l.length c, .func (.func g) #[] lb] w fun e w' => e = .returned (.bool (l.any p)) ∧ w = w' := by
  have HX := Aside0.mk (IndexFunc g lb p A c l w hr hp eg)
  clear hp eg hr
  go_enter Try.func126, Try.ntmps126
  go_wp2_with (go_at_call 57; refine HX.out.mono ?_; rintro e w' ⟨rfl, rfl⟩)
  go_ret
  refine ⟨?_, rfl⟩
  unfold idx
  cases hb : l.any p <;> simp
end Go.Proofs.Ytbijfhmpafjceaa.E
