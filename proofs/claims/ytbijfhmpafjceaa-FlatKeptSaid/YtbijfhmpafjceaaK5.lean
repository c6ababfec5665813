-- Written by a program of this session (wip/tools/mkprint.py), out of the translation and of contracts of this session.
import Derived.Test.YtbijfhmpafjceaaPFlatKeptx0
import Derived.Test.YtbijfhmpafjceaaK4
import Derived.Test.YtbijfhmpafjceaaE19
namespace Go.Proofs.Ytbijfhmpafjceaa.PFlatKept
open Go.RowKit Go.Proofs.YtbijfhmpafjceaaW.PrintWords Go.Proofs.YtbijfhmpafjceaaW.PrintLast Go.Proofs.YtbijfhmpafjceaaW.PrintMore
attribute [local go_sem] max2_int min2_int max_two min_two max_three min_three max_four min_four   -- for this text's walks alone
set_option linter.unusedVariables false
set_option linter.unusedSimpArgs false

/-! ### cobblelaw07_awake: function 6 -/
def cobblelaw07_awake.f  : Option (Bool) :=
some true
set_option maxHeartbeats 8000000 in
set_option maxRecDepth 100000 in
theorem cobblelaw07_awake.calls  (r : Bool) (w : World) (h : cobblelaw07_awake.f  = some r) :
    Calls Try.prog 6 #[] w fun e w' => e = .returned (.bool r) ∧ Below w.heap.size w w' := by
  obtain rfl : true = r := Option.some.inj h
  exact E.awake_at w


/-! ### cobblebase_Within: function 9 -/
def cobblebase_Within.f (a0 : Int) (a1 : Int) (a2 : Int) : Option (Bool) := if a1 ≤ a0 then (some (decide (a0 ≤ a2))) else (some false)
set_option maxHeartbeats 8000000 in
set_option maxRecDepth 100000 in
theorem cobblebase_Within.calls (a0 : Int) (a1 : Int) (a2 : Int) (r : Bool) (w : World) (h : cobblebase_Within.f a0 a1 a2 = some r) :
    Calls Try.prog 9 #[.int .i64 a0, .int .i64 a1, .int .i64 a2] w fun e w' => e = .returned (.bool r) ∧ Drawn0 w w' := by
  have H : (if a1 ≤ a0 then (some (decide (a0 ≤ a2))) else (some false)) = some r := h
  clear h
  by_cases c4 : a1 ≤ a0
  · rw [if_pos c4] at H
    have c4b0 : decide (a1 ≤ a0) = true := decide_eq_true c4
    clear c4
    obtain rfl := Option.some.inj H
    go_enter Try.func9, Try.ntmps9
    go_wp2
    go_ret
    exact ⟨by first | rfl | (simp; done) | (simp [*]; done), by repeat (first | exact Drawn0.refl _ | apply Drawn0.step)⟩
  · rw [if_neg c4] at H
    have c4b0 : decide (a1 ≤ a0) = false := decide_eq_false c4
    clear c4
    obtain rfl := Option.some.inj H
    go_enter Try.func9, Try.ntmps9
    go_wp2
    go_ret
    exact ⟨by first | rfl | (simp; done) | (simp [*]; done), by repeat (first | exact Drawn0.refl _ | apply Drawn0.step)⟩


/-! ### cobblelaw07_short: function 31 -/
def cobblelaw07_short.f (l0 : List Int) : Option (Bool) := some (decide ((l0.length : Int) ≤ 12))
set_option maxHeartbeats 8000000 in
set_option maxRecDepth 100000 in
theorem cobblelaw07_short.calls (A0 : Option Addr) (c0 : Nat) (l0 : List Int) (r : Bool) (w : World) (hr0 : Kd.C (Kd.int .i64) w A0 l0.length l0) (hc0 : l0.length ≤ c0) (h : cobblelaw07_short.f l0 = some r) :
    Calls Try.prog 31 #[.slice A0 l0.length c0] w fun e w' => e = .returned (.bool r) ∧ Drawn0 w w' := by
  have HR0 := Aside0.mk hr0
  have HC0 := Aside0.mk hc0
  clear hr0 hc0
  have H : (some (decide ((l0.length : Int) ≤ 12))) = some r := h
  clear h
  obtain rfl := Option.some.inj H
  go_enter Try.func31, Try.ntmps31
  go_wp2
  go_ret
  exact ⟨by first | rfl | (simp; done) | (simp [*]; done), by repeat (first | exact Drawn0.refl _ | apply Drawn0.step)⟩


/-! ### cobblelaw07_Few: function 7 -/
mutual
def cobblelaw07_Few.j0 : Nat → Bool → List Int → List (S39) → Option (Bool)
  | 0, _, _, _ => none
  | k + 1, x15, x186000, x186001 => if x15 = true then (some false) else (cobblelaw07_Few.l0 k 1 0 x186000 x186001)
def cobblelaw07_Few.l0 : Nat → Int → Int → List Int → List (S39) → Option (Bool)
  | 0, _, _, _, _ => none
  | k + 1, x3, x4, x186000, x186001 => if x4 < (x186001.length : Int) then (if 0 ≤ x4 then ((cobblelaw07_short.f ((rd_T39 x186001 x4).f1)).bind fun t189 => (if t189 = true then ((cobblebase_Within.f ((rd_T39 x186001 x4).f0.f0) (-10) 10).bind fun t190 => (if t190 = true then ((cobblebase_Within.f ((rd_T39 x186001 x4).f0.f1) (-10) 10).bind fun t191 => (cobblelaw07_Few.j2 k x3 x4 t191 x186000 x186001 ((rd_T39 x186001 x4).f0.f0) ((rd_T39 x186001 x4).f0.f1) ((rd_T39 x186001 x4).f1))) else (cobblelaw07_Few.j2 k x3 x4 false x186000 x186001 ((rd_T39 x186001 x4).f0.f0) ((rd_T39 x186001 x4).f0.f1) ((rd_T39 x186001 x4).f1)))) else (some false))) else (none)) else (some true)
def cobblelaw07_Few.j2 : Nat → Int → Int → Bool → List Int → List (S39) → Int → Int → List Int → Option (Bool)
  | 0, _, _, _, _, _, _, _, _ => none
  | k + 1, x3, x4, x41, x186000, x186001, x189000, x189001, x189002 => if x41 = true then (if (wrap64 (x3 * (mx 1 (wrap64 ((wrap64 (x189001 - x189000)) + 1))))) > 700 then (some false) else (cobblelaw07_Few.l0 k (wrap64 (x3 * (mx 1 (wrap64 ((wrap64 (x189001 - x189000)) + 1))))) (wrap64 (x4 + 1)) x186000 x186001)) else (if x3 > 700 then (some false) else (cobblelaw07_Few.l0 k x3 (wrap64 (x4 + 1)) x186000 x186001))
end
def cobblelaw07_Few.f (k : Nat) (l0_0 : List Int) (l0_1 : List (S39)) : Option (Bool) := (cobblelaw07_short.f l0_0).bind fun t186 => (if t186 = true then (cobblelaw07_Few.j0 k (decide ((l0_1.length : Int) > 5)) l0_0 l0_1) else (cobblelaw07_Few.j0 k true l0_0 l0_1))
theorem cobblelaw07_Few.mono_l : ∀ k, (∀ y0 y1 y2, LeO (cobblelaw07_Few.j0 k y0 y1 y2) (cobblelaw07_Few.j0 (k + 1) y0 y1 y2)) ∧ (∀ y0 y1 y2 y3, LeO (cobblelaw07_Few.l0 k y0 y1 y2 y3) (cobblelaw07_Few.l0 (k + 1) y0 y1 y2 y3)) ∧ (∀ y0 y1 y2 y3 y4 y5 y6 y7, LeO (cobblelaw07_Few.j2 k y0 y1 y2 y3 y4 y5 y6 y7) (cobblelaw07_Few.j2 (k + 1) y0 y1 y2 y3 y4 y5 y6 y7))
  | 0 => ⟨fun _ _ _ r h => by simp [cobblelaw07_Few.j0] at h, fun _ _ _ _ r h => by simp [cobblelaw07_Few.l0] at h, fun _ _ _ _ _ _ _ _ r h => by simp [cobblelaw07_Few.j2] at h⟩
  | k + 1 => by
    obtain ⟨ih0, ih1, ih2⟩ := cobblelaw07_Few.mono_l k
    refine ⟨?_, ?_, ?_⟩
    · intro y0 y1 y2
      unfold cobblelaw07_Few.j0
      repeat' first
      | (with_reducible exact ih0 _ _ _)
      | (with_reducible exact ih1 _ _ _ _)
      | (with_reducible exact ih2 _ _ _ _ _ _ _ _)
      | (with_reducible exact LeO.refl _)
      | (with_reducible exact LeO.none _)
      | (with_reducible refine LeO.ite ?_ ?_)
      | (with_reducible refine LeO.bind ?_ (fun _ => ?_))
      | exact ih0 _ _ _
      | exact ih1 _ _ _ _
      | exact ih2 _ _ _ _ _ _ _ _
      | exact LeO.none _
      | refine LeO.ite ?_ ?_
      | refine LeO.bind ?_ (fun _ => ?_)
    · intro y0 y1 y2 y3
      unfold cobblelaw07_Few.l0
      repeat' first
      | (with_reducible exact ih0 _ _ _)
      | (with_reducible exact ih1 _ _ _ _)
      | (with_reducible exact ih2 _ _ _ _ _ _ _ _)
      | (with_reducible exact LeO.refl _)
      | (with_reducible exact LeO.none _)
      | (with_reducible refine LeO.ite ?_ ?_)
      | (with_reducible refine LeO.bind ?_ (fun _ => ?_))
      | exact ih0 _ _ _
      | exact ih1 _ _ _ _
      | exact ih2 _ _ _ _ _ _ _ _
      | exact LeO.none _
      | refine LeO.ite ?_ ?_
      | refine LeO.bind ?_ (fun _ => ?_)
    · intro y0 y1 y2 y3 y4 y5 y6 y7
      unfold cobblelaw07_Few.j2
      repeat' first
      | (with_reducible exact ih0 _ _ _)
      | (with_reducible exact ih1 _ _ _ _)
      | (with_reducible exact ih2 _ _ _ _ _ _ _ _)
      | (with_reducible exact LeO.refl _)
      | (with_reducible exact LeO.none _)
      | (with_reducible refine LeO.ite ?_ ?_)
      | (with_reducible refine LeO.bind ?_ (fun _ => ?_))
      | exact ih0 _ _ _
      | exact ih1 _ _ _ _
      | exact ih2 _ _ _ _ _ _ _ _
      | exact LeO.none _
      | refine LeO.ite ?_ ?_
      | refine LeO.bind ?_ (fun _ => ?_)
theorem cobblelaw07_Few.mono : ∀ a0 a1 k, LeO (cobblelaw07_Few.f k a0 a1) (cobblelaw07_Few.f (k + 1) a0 a1) := by
  intro a0 a1 k
  obtain ⟨ih0, ih1, ih2⟩ := cobblelaw07_Few.mono_l k
  unfold cobblelaw07_Few.f
  repeat' first
      | (with_reducible exact ih0 _ _ _)
      | (with_reducible exact ih1 _ _ _ _)
      | (with_reducible exact ih2 _ _ _ _ _ _ _ _)
      | (with_reducible exact LeO.refl _)
      | (with_reducible exact LeO.none _)
      | (with_reducible refine LeO.ite ?_ ?_)
      | (with_reducible refine LeO.bind ?_ (fun _ => ?_))
      | exact ih0 _ _ _
      | exact ih1 _ _ _ _
      | exact ih2 _ _ _ _ _ _ _ _
      | exact LeO.none _
      | refine LeO.ite ?_ ?_
      | refine LeO.bind ?_ (fun _ => ?_)
set_option maxHeartbeats 8000000 in
set_option maxRecDepth 100000 in
theorem cobblelaw07_Few.calls (k : Nat) (A0_0 : Option Addr) (c0_0 : Nat) (l0_0 : List Int) (A0_1 : Option Addr) (c0_1 : Nat) (l0_1 : List (S39)) (r : Bool) (w : World) (hr0_0 : Kd.C (Kd.int .i64) w A0_0 l0_0.length l0_0) (hc0_0 : l0_0.length ≤ c0_0) (hr0_1 : Kd.C k39 w A0_1 l0_1.length l0_1) (hc0_1 : l0_1.length ≤ c0_1) (h : cobblelaw07_Few.f k l0_0 l0_1 = some r) :
    Calls Try.prog 7 #[.agg #[.slice A0_0 l0_0.length c0_0, .slice A0_1 l0_1.length c0_1]] w fun e w' => e = .returned (.bool r) ∧ Below w.heap.size w w' := by
  have hu25 := Try.underlying25
  have hu39 := Try.underlying39
  have HR0_0 := Aside0.mk hr0_0
  have HC0_0 := Aside0.mk hc0_0
  clear hr0_0 hc0_0
  have HR0_1 := Aside0.mk hr0_1
  have HC0_1 := Aside0.mk hc0_1
  clear hr0_1 hc0_1
  have HB := Aside0.mk (Below.refl w.heap.size w)
  have H : ((cobblelaw07_short.f l0_0).bind fun t186 => (if t186 = true then (cobblelaw07_Few.j0 k (decide ((l0_1.length : Int) > 5)) l0_0 l0_1) else (cobblelaw07_Few.j0 k true l0_0 l0_1))) = some r := h
  clear h
  have HC2 := Aside0.mk H
  clear H
  go_enter Try.func7, Try.ntmps7
  go_upto_region 1 with (first | ((with_reducible refine gate_dst (N := 1) rfl ?_); (try (refine gate_guard (by rfl) ?_; dsimp only)); refine box_event ?hg (N := 1) ?hd (cs := #[.slice A0_0 l0_0.length c0_0, .slice A0_1 l0_1.length c0_1]) (t := 25) ?hr ?_; (case hd => rfl); (case hg => rfl); (case hr => first | (go_simp; done) | (go_simp; rfl)); intro gb185 hg w3 hbox hb; have n0_ := Aside0.mk (below_step (by repeat (first | (with_reducible first | exact HB.out | apply below_alloc | apply pw_below_drewN | apply below_drew1) | exact HB.out)) hb); have n1_ := Aside0.mk (hbox); have n2_ := Aside0.mk ((by rw [hg]; exact (below_size (by repeat (first | (with_reducible first | exact HB.out | apply below_alloc | apply pw_below_drewN | apply below_drew1) | exact HB.out))) : w.heap.size ≤ gb185)); have n3_ := Aside0.mk ((by rw [hg]; exact (below_size (by repeat (first | (with_reducible first | exact HB.out | apply below_alloc | apply pw_below_drewN | apply below_drew1) | exact HB.out))) : w.heap.size ≤ gb185)); clear HB; have HB := n0_; have BK185 := n1_; have GW185 := n2_; have GE185 := n3_; clear n0_ n1_ n2_ n3_; clear hb hbox hg))
  (try simp only [Act.put, List.setIfInBounds_toArray, List.set_cons_zero, List.set_cons_succ])
  go_cut [15] (fun v15 wc => ∃ (kq : Nat) (x15_1 : Bool), v15 = .bool x15_1 ∧ Aside0 (cobblelaw07_Few.j0 kq x15_1 l0_0 l0_1 = some r) ∧ Aside0 (kq ≤ k) ∧ Aside0 (wc.heap[gb185]? = some (.cells #[(.slice A0_0 l0_0.length c0_0), (.slice A0_1 l0_1.length c0_1)] 25 (0, 0))) ∧ Aside0 (Below w.heap.size w wc))
  case first =>
    have H := HC2.out
    clear HC2
    replace H := Option.bind_eq_some_iff.mp H
    obtain ⟨t186, A40, H⟩ := H
    replace H : (if t186 = true then (cobblelaw07_Few.j0 k (decide ((l0_1.length : Int) > 5)) l0_0 l0_1) else (cobblelaw07_Few.j0 k true l0_0 l0_1)) = some r := H
    have A4 := Aside0.mk A40
    clear A40
    by_cases c5 : t186 = true
    · subst c5
      have H1 : (cobblelaw07_Few.j0 k (decide ((l0_1.length : Int) > 5)) l0_0 l0_1) = some r := by rw [if_pos rfl] at H; exact H
      clear H
      have H := H1
      clear H1
      have H' := Aside0.mk H
      clear H
      have hcz6_0 : w3.cell? ⟨gb185, 0, none⟩ = some (.slice A0_0 l0_0.length c0_0) := (blk_cell BK185.out 0).trans rfl
      have hcz6_1 : w3.cell? ⟨gb185, 1, none⟩ = some (.slice A0_1 l0_1.length c0_1) := (blk_cell BK185.out 1).trans rfl
      have hfz6_0 := blk_frozen BK185.out 0
      have hfz6_1 := blk_frozen BK185.out 1
      go_wp2_with (first | ((with_reducible refine gate_callee (f := 31) rfl ?_); refine goesL_ (some 8) rfl rfl Try.func31 (by kernel_rfl) rfl #[.slice A0_0 l0_0.length c0_0] rfl (by (try simp only [List.map_toArray, List.map_cons, List.map_nil]); first | done | rfl | (simp only [List.length_drop, List.length_take]; rfl)) ?_; (with_reducible refine (cobblelaw07_short.calls _ _ l0_0 true _ ?side1 ?side2 A4.out).mono ?_); (case side1 => repeat (first | exact (Kd.C_below HR0_0.out HB.out) | (with_reducible refine Kd.C_alloc ?_ _) | (with_reducible refine Kd.C_drewN ?_ _) | (with_reducible refine Kd.C_drew ?_))); (case side2 => exact HC0_0.out); rintro e w' ⟨rfl, ⟨nd, rfl⟩⟩; refine ⟨_, rfl, ?_⟩))
      go_meet
      case rel => exact ⟨_, (decide ((l0_1.length : Int) > 5)), (by first | rfl | (simp; done) | (simp [*]; done)), H', ⟨by first | omega | exact Nat.le_refl _⟩, ⟨by (with_reducible repeat (first | refine blk_drewN ?_ _ | refine blk_drew ?_ | refine blk_alloc ?_ _)); exact BK185.out⟩, ⟨by repeat (first | (with_reducible first | exact HB.out | apply below_alloc | apply pw_below_drewN | apply below_drew1 | refine below_set ?_ GE185.out) | exact HB.out)⟩⟩
    · replace c5 := Bool.eq_false_iff.mpr c5
      subst c5
      have H1 : (cobblelaw07_Few.j0 k true l0_0 l0_1) = some r := by rw [if_neg (show ¬ (false = true) by decide)] at H; exact H
      clear H
      have H := H1
      clear H1
      have H' := Aside0.mk H
      clear H
      have hcz7_0 : w3.cell? ⟨gb185, 0, none⟩ = some (.slice A0_0 l0_0.length c0_0) := (blk_cell BK185.out 0).trans rfl
      have hcz7_1 : w3.cell? ⟨gb185, 1, none⟩ = some (.slice A0_1 l0_1.length c0_1) := (blk_cell BK185.out 1).trans rfl
      have hfz7_0 := blk_frozen BK185.out 0
      have hfz7_1 := blk_frozen BK185.out 1
      go_wp2_with (first | ((with_reducible refine gate_callee (f := 31) rfl ?_); refine goesL_ (some 8) rfl rfl Try.func31 (by kernel_rfl) rfl #[.slice A0_0 l0_0.length c0_0] rfl (by (try simp only [List.map_toArray, List.map_cons, List.map_nil]); first | done | rfl | (simp only [List.length_drop, List.length_take]; rfl)) ?_; (with_reducible refine (cobblelaw07_short.calls _ _ l0_0 false _ ?side1 ?side2 A4.out).mono ?_); (case side1 => repeat (first | exact (Kd.C_below HR0_0.out HB.out) | (with_reducible refine Kd.C_alloc ?_ _) | (with_reducible refine Kd.C_drewN ?_ _) | (with_reducible refine Kd.C_drew ?_))); (case side2 => exact HC0_0.out); rintro e w' ⟨rfl, ⟨nd, rfl⟩⟩; refine ⟨_, rfl, ?_⟩))
      go_meet
      case rel => exact ⟨_, (true), (by first | rfl | (simp; done) | (simp [*]; done)), H', ⟨by first | omega | exact Nat.le_refl _⟩, ⟨by (with_reducible repeat (first | refine blk_drewN ?_ _ | refine blk_drew ?_ | refine blk_alloc ?_ _)); exact BK185.out⟩, ⟨by repeat (first | (with_reducible first | exact HB.out | apply below_alloc | apply pw_below_drewN | apply below_drew1 | refine below_set ?_ GE185.out) | exact HB.out)⟩⟩
  case rest =>
    clear HC2
    try clear p2
    try clear c3
    try clear c5
    try clear c7
    try clear hcz6_0
    try clear hcz6_1
    try clear hcz7_0
    try clear hcz7_1
    try clear hfz6_0
    try clear hfz6_1
    try clear hfz7_0
    try clear hfz7_1
    obtain ⟨kq, x15_1, rfl, HA, HJ1, BK185, HB⟩ := hcut
    cases kq with
    | zero => exact absurd HA.out (by simp [cobblelaw07_Few.j0])
    | succ kj1 =>
      have H := HA.out
      clear HA
      simp only [cobblelaw07_Few.j0] at H
      by_cases c8 : x15_1 = true
      · subst c8
        have H1 : (some false) = some r := by rw [if_pos rfl] at H; exact H
        clear H
        have H := H1
        clear H1
        obtain rfl := Option.some.inj H
        go_wp2
        go_ret
        exact ⟨by first | rfl | (simp [errW_none, errW_some] <;> rfl) | (simp [*, errW_none, errW_some] <;> rfl), by repeat (first | (with_reducible first | exact HB.out | apply below_alloc | apply pw_below_drewN | apply below_drew1 | refine below_set ?_ GE185.out) | exact HB.out)⟩
      · replace c8 := Bool.eq_false_iff.mpr c8
        subst c8
        have H1 : (cobblelaw07_Few.l0 kj1 1 0 l0_0 l0_1) = some r := by rw [if_neg (show ¬ (false = true) by decide)] at H; exact H
        clear H
        have H := H1
        clear H1
        have H' := Aside0.mk H
        clear H
        go_wp2
        go_loopg [3, 4] kj1 (fun kq v3 v4 w' => ∃ (x3_2 : Int) (x4_2 : Int), v3 = .int .i64 x3_2 ∧ v4 = .int .i64 x4_2 ∧ Aside0 (cobblelaw07_Few.l0 kq x3_2 x4_2 l0_0 l0_1 = some r) ∧ Aside0 (kq ≤ kj1) ∧ Aside0 (w'.heap[gb185]? = some (.cells #[(.slice A0_0 l0_0.length c0_0), (.slice A0_1 l0_1.length c0_1)] 25 (0, 0))) ∧ Aside0 (Below w.heap.size w w'))
        case atStart => exact ⟨(1), (0), (by first | rfl | (simp; done) | (simp [*]; done)), (by first | rfl | (simp; done) | (simp [*]; done)), H', ⟨Nat.le_refl _⟩, ⟨by (with_reducible repeat (first | refine blk_drewN ?_ _ | refine blk_drew ?_ | refine blk_alloc ?_ _)); exact BK185.out⟩, ⟨by repeat (first | (with_reducible first | exact HB.out | apply below_alloc | apply pw_below_drewN | apply below_drew1 | refine below_set ?_ GE185.out) | exact HB.out)⟩⟩
        case round =>
          clear H'
          try clear p2
          try clear c3
          try clear c5
          try clear c7
          try clear c8
          try clear hcz6_0
          try clear hcz6_1
          try clear hcz7_0
          try clear hcz7_1
          try clear hfz6_0
          try clear hfz6_1
          try clear hfz7_0
          try clear hfz7_1
          try clear p2
          obtain ⟨x3_2, x4_2, rfl, rfl, HA, HK2, BK185, HB⟩ := hrel
          cases gk with
          | zero => exact absurd HA.out (by simp [cobblelaw07_Few.l0])
          | succ k2 =>
            have H := HA.out
            clear HA
            simp only [cobblelaw07_Few.l0] at H
            by_cases c9 : x4_2 < (l0_1.length : Int)
            · rw [if_pos c9] at H
              have c9b0 : decide (x4_2 < (l0_1.length : Int)) = true := decide_eq_true c9
              clear c9
              by_cases c10 : 0 ≤ x4_2
              · rw [if_pos c10] at H
                have c10b0 : decide (0 ≤ x4_2) = true := decide_eq_true c10
                clear c10
                replace H := Option.bind_eq_some_iff.mp H
                obtain ⟨t189, A110, H⟩ := H
                replace H : (if t189 = true then ((cobblebase_Within.f ((rd_T39 l0_1 x4_2).f0.f0) (-10) 10).bind fun t190 => (if t190 = true then ((cobblebase_Within.f ((rd_T39 l0_1 x4_2).f0.f1) (-10) 10).bind fun t191 => (cobblelaw07_Few.j2 k2 x3_2 x4_2 t191 l0_0 l0_1 ((rd_T39 l0_1 x4_2).f0.f0) ((rd_T39 l0_1 x4_2).f0.f1) ((rd_T39 l0_1 x4_2).f1))) else (cobblelaw07_Few.j2 k2 x3_2 x4_2 false l0_0 l0_1 ((rd_T39 l0_1 x4_2).f0.f0) ((rd_T39 l0_1 x4_2).f0.f1) ((rd_T39 l0_1 x4_2).f1)))) else (some false)) = some r := H
                have A11 := Aside0.mk A110
                clear A110
                by_cases c12 : t189 = true
                · subst c12
                  have H1 : ((cobblebase_Within.f ((rd_T39 l0_1 x4_2).f0.f0) (-10) 10).bind fun t190 => (if t190 = true then ((cobblebase_Within.f ((rd_T39 l0_1 x4_2).f0.f1) (-10) 10).bind fun t191 => (cobblelaw07_Few.j2 k2 x3_2 x4_2 t191 l0_0 l0_1 ((rd_T39 l0_1 x4_2).f0.f0) ((rd_T39 l0_1 x4_2).f0.f1) ((rd_T39 l0_1 x4_2).f1))) else (cobblelaw07_Few.j2 k2 x3_2 x4_2 false l0_0 l0_1 ((rd_T39 l0_1 x4_2).f0.f0) ((rd_T39 l0_1 x4_2).f0.f1) ((rd_T39 l0_1 x4_2).f1)))) = some r := by rw [if_pos rfl] at H; exact H
                  clear H
                  have H := H1
                  clear H1
                  have HC13 := Aside0.mk H
                  clear H
                  have hcz14_0 : wr.cell? ⟨gb185, 0, none⟩ = some (.slice A0_0 l0_0.length c0_0) := (blk_cell BK185.out 0).trans rfl
                  have hcz14_1 : wr.cell? ⟨gb185, 1, none⟩ = some (.slice A0_1 l0_1.length c0_1) := (blk_cell BK185.out 1).trans rfl
                  have hfz14_0 := blk_frozen BK185.out 0
                  have hfz14_1 := blk_frozen BK185.out 1
                  have p187 : 0 ≤ (x4_2 : Int) := of_decide_eq_true (by first | (with_reducible assumption) | assumption)
                  have q187 : x4_2 < (l0_1.length : Int) := of_decide_eq_true (by first | (with_reducible assumption) | assumption)
                  obtain ⟨ad187, A187_2, c187_2, e187, hx187_0, hx187_1, hx187_2, hl187_2, hi187_2⟩ := at_T39 HR0_1.out x4_2 p187 q187
                  cases e187
                  replace hx187_0 := (HB.out.cell (World.block_lt_of_cell? w _ hx187_0)).trans hx187_0
                  replace hx187_1 := (HB.out.cell (World.block_lt_of_cell? w _ hx187_1)).trans hx187_1
                  replace hx187_2 := (HB.out.cell (World.block_lt_of_cell? w _ hx187_2)).trans hx187_2
                  have HR187_2 := Aside0.mk hi187_2
                  have HC187_2 := Aside0.mk hl187_2
                  clear hi187_2 hl187_2
                  replace p187 := eq_true p187
                  replace q187 := eq_true q187
                  go_upto_region 10 with (first | ((with_reducible refine gate_dst (N := 5) rfl ?_); (try (refine gate_guard (by rfl) ?_; dsimp only)); refine box_event ?hg (N := 5) ?hd (cs := #[.int .i64 0, .int .i64 0, .slice none 0 0]) (t := 39) ?hr ?_; (case hd => rfl); (case hg => rfl); (case hr => first | (go_simp; done) | (go_simp; rfl)); intro gb188 hg w15 hbox hb; have n0_ := Aside0.mk (blk_below (g := gb185) (o := .cells #[.slice A0_0 l0_0.length c0_0, .slice (some ad187) l0_1.length c0_1] 25 (0, 0)) (by (with_reducible repeat (first | refine blk_drewN ?_ _ | refine blk_drew ?_ | refine blk_alloc ?_ _)); exact BK185.out) hb); have n1_ := Aside0.mk (below_step (by repeat (first | (with_reducible first | exact HB.out | apply below_alloc | apply pw_below_drewN | apply below_drew1 | refine below_set ?_ GE185.out) | exact HB.out)) hb); have n2_ := Aside0.mk (hbox); have n3_ := Aside0.mk ((by rw [hg]; exact (below_size (by repeat (first | (with_reducible first | exact HB.out | apply below_alloc | apply pw_below_drewN | apply below_drew1 | refine below_set ?_ GE185.out) | exact HB.out))) : w.heap.size ≤ gb188)); have n4_ := Aside0.mk ((by rw [hg]; exact (below_size (by repeat (first | (with_reducible first | exact HB.out | apply below_alloc | apply pw_below_drewN | apply below_drew1 | refine below_set ?_ GE185.out) | exact HB.out))) : w.heap.size ≤ gb188)); have n5_ := Aside0.mk ((by rw [hg]; exact Nat.ne_of_lt (blk_lt (g := gb185) (o := .cells #[.slice A0_0 l0_0.length c0_0, .slice (some ad187) l0_1.length c0_1] 25 (0, 0)) (by (with_reducible repeat (first | refine blk_drewN ?_ _ | refine blk_drew ?_ | refine blk_alloc ?_ _)); exact BK185.out)) : gb185 ≠ gb188)); have n6_ := Aside0.mk ((by rw [hg]; exact Nat.ne_of_gt (blk_lt (g := gb185) (o := .cells #[.slice A0_0 l0_0.length c0_0, .slice (some ad187) l0_1.length c0_1] 25 (0, 0)) (by (with_reducible repeat (first | refine blk_drewN ?_ _ | refine blk_drew ?_ | refine blk_alloc ?_ _)); exact BK185.out)) : gb188 ≠ gb185)); clear BK185; clear HB; have BK185 := n0_; have HB := n1_; have BK188 := n2_; have GW188 := n3_; have GE188 := n4_; have NB185_188 := n5_; have NB188_185 := n6_; clear n0_ n1_ n2_ n3_ n4_ n5_ n6_; clear hb hbox hg; have hnb16 := NB188_185.out; have hnc16 := NB185_188.out; have hcz17_0 : w15.cell? ⟨gb188, 0, none⟩ = some (.int .i64 0) := (blk_cell BK188.out 0).trans rfl; have hcz17_1 : w15.cell? ⟨gb188, 1, none⟩ = some (.int .i64 0) := (blk_cell BK188.out 1).trans rfl; have hcz17_2 : w15.cell? ⟨gb188, 2, none⟩ = some (.slice none 0 0) := (blk_cell BK188.out 2).trans rfl; have hfz17_0 := blk_frozen BK188.out 0; have hfz17_1 := blk_frozen BK188.out 1; have hfz17_2 := blk_frozen BK188.out 2) | ((with_reducible refine gate_callee (f := 31) rfl ?_); refine goesL_ (some 30) rfl rfl Try.func31 (by kernel_rfl) rfl #[.slice A187_2 ((rd_T39 l0_1 x4_2).f1).length c187_2] rfl (by (try simp only [List.map_toArray, List.map_cons, List.map_nil]); first | done | rfl | (simp only [List.length_drop, List.length_take]; rfl)) ?_; (with_reducible refine (cobblelaw07_short.calls _ _ ((rd_T39 l0_1 x4_2).f1) true _ ?side1 ?side2 A11.out).mono ?_); (case side1 => exact Kd.C_below HR187_2.out (by repeat (first | (with_reducible first | exact HB.out | apply below_alloc | apply pw_below_drewN | apply below_drew1 | refine below_set ?_ GE185.out | refine below_set ?_ GE188.out) | exact HB.out))); (case side2 => exact HC187_2.out); rintro e w' ⟨rfl, ⟨nd, rfl⟩⟩; refine ⟨_, rfl, ?_⟩))
                  (try simp only [Act.put, List.setIfInBounds_toArray, List.set_cons_zero, List.set_cons_succ])
                  go_cut [41] (fun v41 wc => ∃ (kq : Nat) (x41_12 : Bool), v41 = .bool x41_12 ∧ Aside0 (cobblelaw07_Few.j2 kq x3_2 x4_2 x41_12 l0_0 l0_1 ((rd_T39 l0_1 x4_2).f0.f0) ((rd_T39 l0_1 x4_2).f0.f1) ((rd_T39 l0_1 x4_2).f1) = some r) ∧ Aside0 (kq ≤ k2) ∧ Aside0 (wc.heap[gb185]? = some (.cells #[(.slice A0_0 l0_0.length c0_0), (.slice (some ad187) l0_1.length c0_1)] 25 (0, 0))) ∧ Aside0 (wc.heap[gb188]? = some (.cells #[.int .i64 ((rd_T39 l0_1 x4_2).f0.f0), .int .i64 ((rd_T39 l0_1 x4_2).f0.f1), (.slice A187_2 ((rd_T39 l0_1 x4_2).f1).length c187_2)] 39 (0, 0))) ∧ Aside0 (Below w.heap.size w wc))
                  case first =>
                    have H := HC13.out
                    clear HC13
                    replace H := Option.bind_eq_some_iff.mp H
                    obtain ⟨t190, A180, H⟩ := H
                    replace H : (if t190 = true then ((cobblebase_Within.f ((rd_T39 l0_1 x4_2).f0.f1) (-10) 10).bind fun t191 => (cobblelaw07_Few.j2 k2 x3_2 x4_2 t191 l0_0 l0_1 ((rd_T39 l0_1 x4_2).f0.f0) ((rd_T39 l0_1 x4_2).f0.f1) ((rd_T39 l0_1 x4_2).f1))) else (cobblelaw07_Few.j2 k2 x3_2 x4_2 false l0_0 l0_1 ((rd_T39 l0_1 x4_2).f0.f0) ((rd_T39 l0_1 x4_2).f0.f1) ((rd_T39 l0_1 x4_2).f1))) = some r := H
                    have A18 := Aside0.mk A180
                    clear A180
                    by_cases c19 : t190 = true
                    · subst c19
                      have H1 : ((cobblebase_Within.f ((rd_T39 l0_1 x4_2).f0.f1) (-10) 10).bind fun t191 => (cobblelaw07_Few.j2 k2 x3_2 x4_2 t191 l0_0 l0_1 ((rd_T39 l0_1 x4_2).f0.f0) ((rd_T39 l0_1 x4_2).f0.f1) ((rd_T39 l0_1 x4_2).f1))) = some r := by rw [if_pos rfl] at H; exact H
                      clear H
                      have H := H1
                      clear H1
                      replace H := Option.bind_eq_some_iff.mp H
                      obtain ⟨t191, A200, H⟩ := H
                      replace H : (cobblelaw07_Few.j2 k2 x3_2 x4_2 t191 l0_0 l0_1 ((rd_T39 l0_1 x4_2).f0.f0) ((rd_T39 l0_1 x4_2).f0.f1) ((rd_T39 l0_1 x4_2).f1)) = some r := H
                      have A20 := Aside0.mk A200
                      clear A200
                      have H' := Aside0.mk H
                      clear H
                      have hnb21 := NB188_185.out
                      have hnc21 := NB185_188.out
                      have hcz22_0 : w15.cell? ⟨gb188, 0, none⟩ = some (.int .i64 0) := (blk_cell BK188.out 0).trans rfl
                      have hcz22_1 : w15.cell? ⟨gb188, 1, none⟩ = some (.int .i64 0) := (blk_cell BK188.out 1).trans rfl
                      have hcz22_2 : w15.cell? ⟨gb188, 2, none⟩ = some (.slice none 0 0) := (blk_cell BK188.out 2).trans rfl
                      have hfz22_0 := blk_frozen BK188.out 0
                      have hfz22_1 := blk_frozen BK188.out 1
                      have hfz22_2 := blk_frozen BK188.out 2
                      go_wp2_with (first | ((with_reducible refine gate_callee (f := 9) rfl ?_); refine goesL_ (some 35) rfl rfl Try.func9 (by kernel_rfl) rfl #[.int .i64 ((rd_T39 l0_1 x4_2).f0.f0), .int .i64 (-10), .int .i64 10] rfl (by (try simp only [List.map_toArray, List.map_cons, List.map_nil]); first | done | rfl | (simp only [List.length_drop, List.length_take]; rfl)) ?_; (with_reducible refine (cobblebase_Within.calls ((rd_T39 l0_1 x4_2).f0.f0) (-10) 10 true _ A18.out).mono ?_); rintro e w' ⟨rfl, ⟨nd, rfl⟩⟩; refine ⟨_, rfl, ?_⟩) | (go_at_call 9; (with_reducible refine (cobblebase_Within.calls ((rd_T39 l0_1 x4_2).f0.f1) (-10) 10 t191 _ A20.out).mono ?_); rintro e w' ⟨rfl, ⟨nd, rfl⟩⟩))
                      go_meet
                      case rel => exact ⟨_, (t191), (by first | rfl | (simp; done) | (simp [*]; done)), H', ⟨by have := HJ1.out; have := HK2.out; first | omega | exact Nat.le_refl _⟩, ⟨by (with_reducible repeat (first | refine blk_drewN ?_ _ | refine blk_drew ?_ | refine blk_alloc ?_ _)); refine blk_far ?_ NB185_188.out _; (with_reducible repeat (first | refine blk_drewN ?_ _ | refine blk_drew ?_ | refine blk_alloc ?_ _)); refine blk_far ?_ NB185_188.out _; (with_reducible repeat (first | refine blk_drewN ?_ _ | refine blk_drew ?_ | refine blk_alloc ?_ _)); refine blk_far ?_ NB185_188.out _; (with_reducible repeat (first | refine blk_drewN ?_ _ | refine blk_drew ?_ | refine blk_alloc ?_ _)); exact BK185.out⟩, ⟨by (with_reducible repeat (first | refine blk_drewN ?_ _ | refine blk_drew ?_ | refine blk_alloc ?_ _)); refine blk_put (cs := #[.int .i64 ((rd_T39 l0_1 x4_2).f0.f0), .int .i64 ((rd_T39 l0_1 x4_2).f0.f1), .slice none 0 0]) ?_ 2 _ rfl; (with_reducible repeat (first | refine blk_drewN ?_ _ | refine blk_drew ?_ | refine blk_alloc ?_ _)); refine blk_put (cs := #[.int .i64 ((rd_T39 l0_1 x4_2).f0.f0), .int .i64 0, .slice none 0 0]) ?_ 1 _ rfl; (with_reducible repeat (first | refine blk_drewN ?_ _ | refine blk_drew ?_ | refine blk_alloc ?_ _)); refine blk_put (cs := #[.int .i64 0, .int .i64 0, .slice none 0 0]) ?_ 0 _ rfl; (with_reducible repeat (first | refine blk_drewN ?_ _ | refine blk_drew ?_ | refine blk_alloc ?_ _)); exact BK188.out⟩, ⟨by repeat (first | (with_reducible first | exact HB.out | apply below_alloc | apply pw_below_drewN | apply below_drew1 | refine below_set ?_ GE185.out | refine below_set ?_ GE188.out) | exact HB.out)⟩⟩
                    · replace c19 := Bool.eq_false_iff.mpr c19
                      subst c19
                      have H1 : (cobblelaw07_Few.j2 k2 x3_2 x4_2 false l0_0 l0_1 ((rd_T39 l0_1 x4_2).f0.f0) ((rd_T39 l0_1 x4_2).f0.f1) ((rd_T39 l0_1 x4_2).f1)) = some r := by rw [if_neg (show ¬ (false = true) by decide)] at H; exact H
                      clear H
                      have H := H1
                      clear H1
                      have H' := Aside0.mk H
                      clear H
                      have hnb23 := NB188_185.out
                      have hnc23 := NB185_188.out
                      have hcz24_0 : w15.cell? ⟨gb188, 0, none⟩ = some (.int .i64 0) := (blk_cell BK188.out 0).trans rfl
                      have hcz24_1 : w15.cell? ⟨gb188, 1, none⟩ = some (.int .i64 0) := (blk_cell BK188.out 1).trans rfl
                      have hcz24_2 : w15.cell? ⟨gb188, 2, none⟩ = some (.slice none 0 0) := (blk_cell BK188.out 2).trans rfl
                      have hfz24_0 := blk_frozen BK188.out 0
                      have hfz24_1 := blk_frozen BK188.out 1
                      have hfz24_2 := blk_frozen BK188.out 2
                      go_wp2_with (first | ((with_reducible refine gate_callee (f := 9) rfl ?_); refine goesL_ (some 35) rfl rfl Try.func9 (by kernel_rfl) rfl #[.int .i64 ((rd_T39 l0_1 x4_2).f0.f0), .int .i64 (-10), .int .i64 10] rfl (by (try simp only [List.map_toArray, List.map_cons, List.map_nil]); first | done | rfl | (simp only [List.length_drop, List.length_take]; rfl)) ?_; (with_reducible refine (cobblebase_Within.calls ((rd_T39 l0_1 x4_2).f0.f0) (-10) 10 false _ A18.out).mono ?_); rintro e w' ⟨rfl, ⟨nd, rfl⟩⟩; refine ⟨_, rfl, ?_⟩))
                      go_meet
                      case rel => exact ⟨_, (false), (by first | rfl | (simp; done) | (simp [*]; done)), H', ⟨by have := HJ1.out; have := HK2.out; first | omega | exact Nat.le_refl _⟩, ⟨by (with_reducible repeat (first | refine blk_drewN ?_ _ | refine blk_drew ?_ | refine blk_alloc ?_ _)); refine blk_far ?_ NB185_188.out _; (with_reducible repeat (first | refine blk_drewN ?_ _ | refine blk_drew ?_ | refine blk_alloc ?_ _)); refine blk_far ?_ NB185_188.out _; (with_reducible repeat (first | refine blk_drewN ?_ _ | refine blk_drew ?_ | refine blk_alloc ?_ _)); refine blk_far ?_ NB185_188.out _; (with_reducible repeat (first | refine blk_drewN ?_ _ | refine blk_drew ?_ | refine blk_alloc ?_ _)); exact BK185.out⟩, ⟨by (with_reducible repeat (first | refine blk_drewN ?_ _ | refine blk_drew ?_ | refine blk_alloc ?_ _)); refine blk_put (cs := #[.int .i64 ((rd_T39 l0_1 x4_2).f0.f0), .int .i64 ((rd_T39 l0_1 x4_2).f0.f1), .slice none 0 0]) ?_ 2 _ rfl; (with_reducible repeat (first | refine blk_drewN ?_ _ | refine blk_drew ?_ | refine blk_alloc ?_ _)); refine blk_put (cs := #[.int .i64 ((rd_T39 l0_1 x4_2).f0.f0), .int .i64 0, .slice none 0 0]) ?_ 1 _ rfl; (with_reducible repeat (first | refine blk_drewN ?_ _ | refine blk_drew ?_ | refine blk_alloc ?_ _)); refine blk_put (cs := #[.int .i64 0, .int .i64 0, .slice none 0 0]) ?_ 0 _ rfl; (with_reducible repeat (first | refine blk_drewN ?_ _ | refine blk_drew ?_ | refine blk_alloc ?_ _)); exact BK188.out⟩, ⟨by repeat (first | (with_reducible first | exact HB.out | apply below_alloc | apply pw_below_drewN | apply below_drew1 | refine below_set ?_ GE185.out | refine below_set ?_ GE188.out) | exact HB.out)⟩⟩
                  case rest =>
                    clear HC13
                    try clear c1
                    try clear p1
                    try clear q1
                    try clear hx1
                    try clear c2
                    try clear p2
                    try clear c3
                    try clear c5
                    try clear c7
                    try clear c8
                    try clear c9
                    try clear c9b0
                    try clear c10
                    try clear c10b0
                    try clear c12
                    try clear c16
                    try clear c18
                    try clear p18
                    try clear q18
                    try clear hx18
                    try clear c19
                    try clear c21
                    try clear c23
                    try clear hcz14_0
                    try clear hcz14_1
                    try clear hcz17_0
                    try clear hcz17_1
                    try clear hcz17_2
                    try clear hcz22_0
                    try clear hcz22_1
                    try clear hcz22_2
                    try clear hcz24_0
                    try clear hcz24_1
                    try clear hcz24_2
                    try clear hcz6_0
                    try clear hcz6_1
                    try clear hcz7_0
                    try clear hcz7_1
                    try clear hfz14_0
                    try clear hfz14_1
                    try clear hfz17_0
                    try clear hfz17_1
                    try clear hfz17_2
                    try clear hfz22_0
                    try clear hfz22_1
                    try clear hfz22_2
                    try clear hfz24_0
                    try clear hfz24_1
                    try clear hfz24_2
                    try clear hfz6_0
                    try clear hfz6_1
                    try clear hfz7_0
                    try clear hfz7_1
                    try clear hx187_0
                    try clear hx187_1
                    try clear hx187_2
                    try clear p187
                    try clear p2
                    try clear q187
                    obtain ⟨kq, x41_12, rfl, HA, HJ12, BK185, BK188, HB⟩ := hcut
                    cases kq with
                    | zero => exact absurd HA.out (by simp [cobblelaw07_Few.j2])
                    | succ kj12 =>
                      have H := HA.out
                      clear HA
                      simp only [cobblelaw07_Few.j2] at H
                      by_cases c25 : x41_12 = true
                      · subst c25
                        have H1 : (if (wrap64 (x3_2 * (mx 1 (wrap64 ((wrap64 (((rd_T39 l0_1 x4_2).f0.f1) - ((rd_T39 l0_1 x4_2).f0.f0))) + 1))))) > 700 then (some false) else (cobblelaw07_Few.l0 kj12 (wrap64 (x3_2 * (mx 1 (wrap64 ((wrap64 (((rd_T39 l0_1 x4_2).f0.f1) - ((rd_T39 l0_1 x4_2).f0.f0))) + 1))))) (wrap64 (x4_2 + 1)) l0_0 l0_1)) = some r := by rw [if_pos rfl] at H; exact H
                        clear H
                        have H := H1
                        clear H1
                        obtain ⟨ji26, hji26⟩ : ∃ j_ : Int, (mx 1 (wrap64 ((wrap64 (((rd_T39 l0_1 x4_2).f0.f1) - ((rd_T39 l0_1 x4_2).f0.f0))) + 1))) = j_ := ⟨_, rfl⟩
                        replace H : (if (wrap64 (x3_2 * (ji26))) > 700 then (some false) else (cobblelaw07_Few.l0 kj12 (wrap64 (x3_2 * (ji26))) (wrap64 (x4_2 + 1)) l0_0 l0_1)) = some r := by first | (rw [hji26] at H; exact H) | (simp only [hji26] at H ⊢; exact H)
                        have hji26_ : (if 1 < (wrap64 ((wrap64 (((rd_T39 l0_1 x4_2).f0.f1) - ((rd_T39 l0_1 x4_2).f0.f0))) + 1)) then (wrap64 ((wrap64 (((rd_T39 l0_1 x4_2).f0.f1) - ((rd_T39 l0_1 x4_2).f0.f0))) + 1)) else 1) = ji26 := hji26
                        by_cases c27 : (wrap64 (x3_2 * (ji26))) > 700
                        · rw [if_pos c27] at H
                          have c27b0 : decide (700 < (wrap64 (x3_2 * (ji26)))) = true := decide_eq_true c27
                          clear c27
                          obtain rfl := Option.some.inj H
                          have hnb28 := NB188_185.out
                          have hnc28 := NB185_188.out
                          have hcz29_0 : wc.cell? ⟨gb188, 0, none⟩ = some (.int .i64 ((rd_T39 l0_1 x4_2).f0.f0)) := (blk_cell BK188.out 0).trans rfl
                          have hcz29_1 : wc.cell? ⟨gb188, 1, none⟩ = some (.int .i64 ((rd_T39 l0_1 x4_2).f0.f1)) := (blk_cell BK188.out 1).trans rfl
                          have hcz29_2 : wc.cell? ⟨gb188, 2, none⟩ = some (.slice A187_2 ((rd_T39 l0_1 x4_2).f1).length c187_2) := (blk_cell BK188.out 2).trans rfl
                          have hfz29_0 := blk_frozen BK188.out 0
                          have hfz29_1 := blk_frozen BK188.out 1
                          have hfz29_2 := blk_frozen BK188.out 2
                          go_wp2
                          go_ret
                          exact ⟨by first | rfl | (simp [errW_none, errW_some] <;> rfl) | (simp only [← hji26]; first | rfl | (simp [errW_none, errW_some] <;> rfl)) | (simp [*, errW_none, errW_some] <;> rfl), by repeat (first | (with_reducible first | exact HB.out | apply below_alloc | apply pw_below_drewN | apply below_drew1 | refine below_set ?_ GE185.out | refine below_set ?_ GE188.out) | exact HB.out)⟩
                        · rw [if_neg c27] at H
                          have c27b0 : decide (700 < (wrap64 (x3_2 * (ji26)))) = false := decide_eq_false c27
                          clear c27
                          have H' := Aside0.mk H
                          clear H
                          have hnb30 := NB188_185.out
                          have hnc30 := NB185_188.out
                          have hcz31_0 : wc.cell? ⟨gb188, 0, none⟩ = some (.int .i64 ((rd_T39 l0_1 x4_2).f0.f0)) := (blk_cell BK188.out 0).trans rfl
                          have hcz31_1 : wc.cell? ⟨gb188, 1, none⟩ = some (.int .i64 ((rd_T39 l0_1 x4_2).f0.f1)) := (blk_cell BK188.out 1).trans rfl
                          have hcz31_2 : wc.cell? ⟨gb188, 2, none⟩ = some (.slice A187_2 ((rd_T39 l0_1 x4_2).f1).length c187_2) := (blk_cell BK188.out 2).trans rfl
                          have hfz31_0 := blk_frozen BK188.out 0
                          have hfz31_1 := blk_frozen BK188.out 1
                          have hfz31_2 := blk_frozen BK188.out 2
                          go_wp2
                          go_roundg kj12
                          case measure => have := HJ1.out; have := HK2.out; have := HJ12.out; omega
                          case rel => exact ⟨(wrap64 (x3_2 * (ji26))), (wrap64 (x4_2 + 1)), (by first | rfl | (simp; done) | (simp only [← hji26] <;> (first | rfl | simp)) | (simp [*]; done)), (by first | rfl | (simp; done) | (simp [*]; done)), H', ⟨by have := HJ1.out; have := HK2.out; have := HJ12.out; omega⟩, ⟨by (with_reducible repeat (first | refine blk_drewN ?_ _ | refine blk_drew ?_ | refine blk_alloc ?_ _)); exact BK185.out⟩, ⟨by repeat (first | (with_reducible first | exact HB.out | apply below_alloc | apply pw_below_drewN | apply below_drew1 | refine below_set ?_ GE185.out | refine below_set ?_ GE188.out) | exact HB.out)⟩⟩
                      · replace c25 := Bool.eq_false_iff.mpr c25
                        subst c25
                        have H1 : (if x3_2 > 700 then (some false) else (cobblelaw07_Few.l0 kj12 x3_2 (wrap64 (x4_2 + 1)) l0_0 l0_1)) = some r := by rw [if_neg (show ¬ (false = true) by decide)] at H; exact H
                        clear H
                        have H := H1
                        clear H1
                        by_cases c32 : x3_2 > 700
                        · rw [if_pos c32] at H
                          have c32b0 : decide (700 < x3_2) = true := decide_eq_true c32
                          clear c32
                          obtain rfl := Option.some.inj H
                          go_wp2
                          go_ret
                          exact ⟨by first | rfl | (simp [errW_none, errW_some] <;> rfl) | (simp [*, errW_none, errW_some] <;> rfl), by repeat (first | (with_reducible first | exact HB.out | apply below_alloc | apply pw_below_drewN | apply below_drew1 | refine below_set ?_ GE185.out | refine below_set ?_ GE188.out) | exact HB.out)⟩
                        · rw [if_neg c32] at H
                          have c32b0 : decide (700 < x3_2) = false := decide_eq_false c32
                          clear c32
                          have H' := Aside0.mk H
                          clear H
                          go_wp2
                          go_roundg kj12
                          case measure => have := HJ1.out; have := HK2.out; have := HJ12.out; omega
                          case rel => exact ⟨(x3_2), (wrap64 (x4_2 + 1)), (by first | rfl | (simp; done) | (simp [*]; done)), (by first | rfl | (simp; done) | (simp [*]; done)), H', ⟨by have := HJ1.out; have := HK2.out; have := HJ12.out; omega⟩, ⟨by (with_reducible repeat (first | refine blk_drewN ?_ _ | refine blk_drew ?_ | refine blk_alloc ?_ _)); exact BK185.out⟩, ⟨by repeat (first | (with_reducible first | exact HB.out | apply below_alloc | apply pw_below_drewN | apply below_drew1 | refine below_set ?_ GE185.out | refine below_set ?_ GE188.out) | exact HB.out)⟩⟩
                · replace c12 := Bool.eq_false_iff.mpr c12
                  subst c12
                  have H1 : (some false) = some r := by rw [if_neg (show ¬ (false = true) by decide)] at H; exact H
                  clear H
                  have H := H1
                  clear H1
                  obtain rfl := Option.some.inj H
                  have hcz33_0 : wr.cell? ⟨gb185, 0, none⟩ = some (.slice A0_0 l0_0.length c0_0) := (blk_cell BK185.out 0).trans rfl
                  have hcz33_1 : wr.cell? ⟨gb185, 1, none⟩ = some (.slice A0_1 l0_1.length c0_1) := (blk_cell BK185.out 1).trans rfl
                  have hfz33_0 := blk_frozen BK185.out 0
                  have hfz33_1 := blk_frozen BK185.out 1
                  have p187 : 0 ≤ (x4_2 : Int) := of_decide_eq_true (by first | (with_reducible assumption) | assumption)
                  have q187 : x4_2 < (l0_1.length : Int) := of_decide_eq_true (by first | (with_reducible assumption) | assumption)
                  obtain ⟨ad187, A187_2, c187_2, e187, hx187_0, hx187_1, hx187_2, hl187_2, hi187_2⟩ := at_T39 HR0_1.out x4_2 p187 q187
                  cases e187
                  replace hx187_0 := (HB.out.cell (World.block_lt_of_cell? w _ hx187_0)).trans hx187_0
                  replace hx187_1 := (HB.out.cell (World.block_lt_of_cell? w _ hx187_1)).trans hx187_1
                  replace hx187_2 := (HB.out.cell (World.block_lt_of_cell? w _ hx187_2)).trans hx187_2
                  have HR187_2 := Aside0.mk hi187_2
                  have HC187_2 := Aside0.mk hl187_2
                  clear hi187_2 hl187_2
                  replace p187 := eq_true p187
                  replace q187 := eq_true q187
                  go_wp2_with (first | ((with_reducible refine gate_dst (N := 5) rfl ?_); (try (refine gate_guard (by rfl) ?_; dsimp only)); refine box_event ?hg (N := 5) ?hd (cs := #[.int .i64 0, .int .i64 0, .slice none 0 0]) (t := 39) ?hr ?_; (case hd => rfl); (case hg => rfl); (case hr => first | (go_simp; done) | (go_simp; rfl)); intro gb188 hg w34 hbox hb; have n0_ := Aside0.mk (blk_below (g := gb185) (o := .cells #[.slice A0_0 l0_0.length c0_0, .slice (some ad187) l0_1.length c0_1] 25 (0, 0)) (by (with_reducible repeat (first | refine blk_drewN ?_ _ | refine blk_drew ?_ | refine blk_alloc ?_ _)); exact BK185.out) hb); have n1_ := Aside0.mk (below_step (by repeat (first | (with_reducible first | exact HB.out | apply below_alloc | apply pw_below_drewN | apply below_drew1 | refine below_set ?_ GE185.out) | exact HB.out)) hb); have n2_ := Aside0.mk (hbox); have n3_ := Aside0.mk ((by rw [hg]; exact (below_size (by repeat (first | (with_reducible first | exact HB.out | apply below_alloc | apply pw_below_drewN | apply below_drew1 | refine below_set ?_ GE185.out) | exact HB.out))) : w.heap.size ≤ gb188)); have n4_ := Aside0.mk ((by rw [hg]; exact (below_size (by repeat (first | (with_reducible first | exact HB.out | apply below_alloc | apply pw_below_drewN | apply below_drew1 | refine below_set ?_ GE185.out) | exact HB.out))) : w.heap.size ≤ gb188)); have n5_ := Aside0.mk ((by rw [hg]; exact Nat.ne_of_lt (blk_lt (g := gb185) (o := .cells #[.slice A0_0 l0_0.length c0_0, .slice (some ad187) l0_1.length c0_1] 25 (0, 0)) (by (with_reducible repeat (first | refine blk_drewN ?_ _ | refine blk_drew ?_ | refine blk_alloc ?_ _)); exact BK185.out)) : gb185 ≠ gb188)); have n6_ := Aside0.mk ((by rw [hg]; exact Nat.ne_of_gt (blk_lt (g := gb185) (o := .cells #[.slice A0_0 l0_0.length c0_0, .slice (some ad187) l0_1.length c0_1] 25 (0, 0)) (by (with_reducible repeat (first | refine blk_drewN ?_ _ | refine blk_drew ?_ | refine blk_alloc ?_ _)); exact BK185.out)) : gb188 ≠ gb185)); clear BK185; clear HB; have BK185 := n0_; have HB := n1_; have BK188 := n2_; have GW188 := n3_; have GE188 := n4_; have NB185_188 := n5_; have NB188_185 := n6_; clear n0_ n1_ n2_ n3_ n4_ n5_ n6_; clear hb hbox hg; have hnb35 := NB188_185.out; have hnc35 := NB185_188.out; have hcz36_0 : w34.cell? ⟨gb188, 0, none⟩ = some (.int .i64 0) := (blk_cell BK188.out 0).trans rfl; have hcz36_1 : w34.cell? ⟨gb188, 1, none⟩ = some (.int .i64 0) := (blk_cell BK188.out 1).trans rfl; have hcz36_2 : w34.cell? ⟨gb188, 2, none⟩ = some (.slice none 0 0) := (blk_cell BK188.out 2).trans rfl; have hfz36_0 := blk_frozen BK188.out 0; have hfz36_1 := blk_frozen BK188.out 1; have hfz36_2 := blk_frozen BK188.out 2) | ((with_reducible refine gate_callee (f := 31) rfl ?_); refine goesL_ (some 30) rfl rfl Try.func31 (by kernel_rfl) rfl #[.slice A187_2 ((rd_T39 l0_1 x4_2).f1).length c187_2] rfl (by (try simp only [List.map_toArray, List.map_cons, List.map_nil]); first | done | rfl | (simp only [List.length_drop, List.length_take]; rfl)) ?_; (with_reducible refine (cobblelaw07_short.calls _ _ ((rd_T39 l0_1 x4_2).f1) false _ ?side1 ?side2 A11.out).mono ?_); (case side1 => exact Kd.C_below HR187_2.out (by repeat (first | (with_reducible first | exact HB.out | apply below_alloc | apply pw_below_drewN | apply below_drew1 | refine below_set ?_ GE185.out | refine below_set ?_ GE188.out) | exact HB.out))); (case side2 => exact HC187_2.out); rintro e w' ⟨rfl, ⟨nd, rfl⟩⟩; refine ⟨_, rfl, ?_⟩))
                  go_ret
                  exact ⟨by first | rfl | (simp [errW_none, errW_some] <;> rfl) | (simp [*, errW_none, errW_some] <;> rfl), by repeat (first | (with_reducible first | exact HB.out | apply below_alloc | apply pw_below_drewN | apply below_drew1 | refine below_set ?_ GE185.out | refine below_set ?_ GE188.out) | exact HB.out)⟩
              · rw [if_neg c10] at H
                exact absurd H (by simp)
            · rw [if_neg c9] at H
              have c9b0 : decide (x4_2 < (l0_1.length : Int)) = false := decide_eq_false c9
              clear c9
              obtain rfl := Option.some.inj H
              have hcz37_0 : wr.cell? ⟨gb185, 0, none⟩ = some (.slice A0_0 l0_0.length c0_0) := (blk_cell BK185.out 0).trans rfl
              have hcz37_1 : wr.cell? ⟨gb185, 1, none⟩ = some (.slice A0_1 l0_1.length c0_1) := (blk_cell BK185.out 1).trans rfl
              have hfz37_0 := blk_frozen BK185.out 0
              have hfz37_1 := blk_frozen BK185.out 1
              go_wp2
              go_ret
              exact ⟨by first | rfl | (simp [errW_none, errW_some] <;> rfl) | (simp [*, errW_none, errW_some] <;> rfl), by repeat (first | (with_reducible first | exact HB.out | apply below_alloc | apply pw_below_drewN | apply below_drew1 | refine below_set ?_ GE185.out) | exact HB.out)⟩


end Go.Proofs.Ytbijfhmpafjceaa.PFlatKept
