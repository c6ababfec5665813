-- Written by a program of this session (wip/tools/mkprint.py), out of the translation and of contracts of this session.
import Derived.Test.YtbijfhmpafjceaaPFlatKeptx0
import Derived.Test.YtbijfhmpafjceaaK5
namespace Go.Proofs.Ytbijfhmpafjceaa.PFlatKept
open Go.RowKit Go.Proofs.YtbijfhmpafjceaaW.PrintWords Go.Proofs.YtbijfhmpafjceaaW.PrintLast Go.Proofs.YtbijfhmpafjceaaW.PrintMore
attribute [local go_sem] max2_int min2_int max_two min_two max_three min_three max_four min_four   -- for this text's walks alone
set_option linter.unusedVariables false
set_option linter.unusedSimpArgs false

/-! ### cobbleref07_CheckRules: function 32 -/
mutual
def cobbleref07_CheckRules.l0 : Nat → Int → Int → List Int → List (S39) → Option (Int × Int)
  | 0, _, _, _, _ => none
  | k + 1, x4, x5, x193000, x193001 => if x5 < x4 then (if 0 ≤ x5 then (if x5 < (x193000.length : Int) then ((cobblebase_Within.f (rd x193000 x5) (-100000) 100000).bind fun t194 => (if t194 = true then (cobbleref07_CheckRules.l0 k x4 (wrap64 (x5 + 1)) x193000 x193001) else (some (0, 2)))) else (none)) else (none)) else (if (x193001.length : Int) = 0 then (some (0, 10)) else (if (x193001.length : Int) > 3 then (some (0, 8)) else (cobbleref07_CheckRules.l1 k x4 0 x193000 x193001)))
def cobbleref07_CheckRules.l1 : Nat → Int → Int → List Int → List (S39) → Option (Int × Int)
  | 0, _, _, _, _ => none
  | k + 1, x4, x6, x193000, x193001 => if x6 < (x193001.length : Int) then (if 0 ≤ x6 then ((cobblebase_Within.f ((rd_T39 x193001 x6).f0.f0) (-10) 10).bind fun t197 => (if t197 = true then ((cobblebase_Within.f ((rd_T39 x193001 x6).f0.f1) (-10) 10).bind fun t198 => (cobbleref07_CheckRules.j2 k x4 x6 (!t198) x193000 x193001 ((rd_T39 x193001 x6).f0.f0) ((rd_T39 x193001 x6).f0.f1) ((rd_T39 x193001 x6).f1))) else (cobbleref07_CheckRules.j2 k x4 x6 true x193000 x193001 ((rd_T39 x193001 x6).f0.f0) ((rd_T39 x193001 x6).f0.f1) ((rd_T39 x193001 x6).f1)))) else (none)) else (some (0, 0))
def cobbleref07_CheckRules.j2 : Nat → Int → Int → Bool → List Int → List (S39) → Int → Int → List Int → Option (Int × Int)
  | 0, _, _, _, _, _, _, _, _ => none
  | k + 1, x4, x6, x59, x193000, x193001, x197000, x197001, x197002 => if x59 = true then (some (x6, 2)) else (if x197000 > x197001 then (some (x6, 9)) else (if (x197002.length : Int) = x4 then (cobbleref07_CheckRules.l2 k x4 x6 0 x193000 x193001 x197000 x197001 x197002) else (some (x6, 10))))
def cobbleref07_CheckRules.l2 : Nat → Int → Int → Int → List Int → List (S39) → Int → Int → List Int → Option (Int × Int)
  | 0, _, _, _, _, _, _, _, _ => none
  | k + 1, x4, x6, x8, x193000, x193001, x197000, x197001, x197002 => if x8 < x4 then (if 0 ≤ x8 then (if x8 < (x197002.length : Int) then ((cobblebase_Within.f (rd x197002 x8) (-1000) 1000).bind fun t200 => (if t200 = true then (cobbleref07_CheckRules.l2 k x4 x6 (wrap64 (x8 + 1)) x193000 x193001 x197000 x197001 x197002) else (some (x6, 2)))) else (none)) else (none)) else (cobbleref07_CheckRules.l1 k x4 (wrap64 (x6 + 1)) x193000 x193001)
end
def cobbleref07_CheckRules.f (k : Nat) (l0_0 : List Int) (l0_1 : List (S39)) : Option (Int × Int) := if (l0_0.length : Int) = 0 then (some (0, 10)) else (if (l0_0.length : Int) > 9 then (some (0, 8)) else (cobbleref07_CheckRules.l0 k (l0_0.length : Int) 0 l0_0 l0_1))
theorem cobbleref07_CheckRules.mono_l : ∀ k, (∀ y0 y1 y2 y3, LeO (cobbleref07_CheckRules.l0 k y0 y1 y2 y3) (cobbleref07_CheckRules.l0 (k + 1) y0 y1 y2 y3)) ∧ (∀ y0 y1 y2 y3, LeO (cobbleref07_CheckRules.l1 k y0 y1 y2 y3) (cobbleref07_CheckRules.l1 (k + 1) y0 y1 y2 y3)) ∧ (∀ y0 y1 y2 y3 y4 y5 y6 y7, LeO (cobbleref07_CheckRules.j2 k y0 y1 y2 y3 y4 y5 y6 y7) (cobbleref07_CheckRules.j2 (k + 1) y0 y1 y2 y3 y4 y5 y6 y7)) ∧ (∀ y0 y1 y2 y3 y4 y5 y6 y7, LeO (cobbleref07_CheckRules.l2 k y0 y1 y2 y3 y4 y5 y6 y7) (cobbleref07_CheckRules.l2 (k + 1) y0 y1 y2 y3 y4 y5 y6 y7))
  | 0 => ⟨fun _ _ _ _ r h => by simp [cobbleref07_CheckRules.l0] at h, fun _ _ _ _ r h => by simp [cobbleref07_CheckRules.l1] at h, fun _ _ _ _ _ _ _ _ r h => by simp [cobbleref07_CheckRules.j2] at h, fun _ _ _ _ _ _ _ _ r h => by simp [cobbleref07_CheckRules.l2] at h⟩
  | k + 1 => by
    obtain ⟨ih0, ih1, ih2, ih3⟩ := cobbleref07_CheckRules.mono_l k
    refine ⟨?_, ?_, ?_, ?_⟩
    · intro y0 y1 y2 y3
      unfold cobbleref07_CheckRules.l0
      repeat' first
      | (with_reducible exact ih0 _ _ _ _)
      | (with_reducible exact ih1 _ _ _ _)
      | (with_reducible exact ih2 _ _ _ _ _ _ _ _)
      | (with_reducible exact ih3 _ _ _ _ _ _ _ _)
      | (with_reducible exact LeO.refl _)
      | (with_reducible exact LeO.none _)
      | (with_reducible refine LeO.ite ?_ ?_)
      | (with_reducible refine LeO.bind ?_ (fun _ => ?_))
      | exact ih0 _ _ _ _
      | exact ih1 _ _ _ _
      | exact ih2 _ _ _ _ _ _ _ _
      | exact ih3 _ _ _ _ _ _ _ _
      | exact LeO.none _
      | refine LeO.ite ?_ ?_
      | refine LeO.bind ?_ (fun _ => ?_)
    · intro y0 y1 y2 y3
      unfold cobbleref07_CheckRules.l1
      repeat' first
      | (with_reducible exact ih0 _ _ _ _)
      | (with_reducible exact ih1 _ _ _ _)
      | (with_reducible exact ih2 _ _ _ _ _ _ _ _)
      | (with_reducible exact ih3 _ _ _ _ _ _ _ _)
      | (with_reducible exact LeO.refl _)
      | (with_reducible exact LeO.none _)
      | (with_reducible refine LeO.ite ?_ ?_)
      | (with_reducible refine LeO.bind ?_ (fun _ => ?_))
      | exact ih0 _ _ _ _
      | exact ih1 _ _ _ _
      | exact ih2 _ _ _ _ _ _ _ _
      | exact ih3 _ _ _ _ _ _ _ _
      | exact LeO.none _
      | refine LeO.ite ?_ ?_
      | refine LeO.bind ?_ (fun _ => ?_)
    · intro y0 y1 y2 y3 y4 y5 y6 y7
      unfold cobbleref07_CheckRules.j2
      repeat' first
      | (with_reducible exact ih0 _ _ _ _)
      | (with_reducible exact ih1 _ _ _ _)
      | (with_reducible exact ih2 _ _ _ _ _ _ _ _)
      | (with_reducible exact ih3 _ _ _ _ _ _ _ _)
      | (with_reducible exact LeO.refl _)
      | (with_reducible exact LeO.none _)
      | (with_reducible refine LeO.ite ?_ ?_)
      | (with_reducible refine LeO.bind ?_ (fun _ => ?_))
      | exact ih0 _ _ _ _
      | exact ih1 _ _ _ _
      | exact ih2 _ _ _ _ _ _ _ _
      | exact ih3 _ _ _ _ _ _ _ _
      | exact LeO.none _
      | refine LeO.ite ?_ ?_
      | refine LeO.bind ?_ (fun _ => ?_)
    · intro y0 y1 y2 y3 y4 y5 y6 y7
      unfold cobbleref07_CheckRules.l2
      repeat' first
      | (with_reducible exact ih0 _ _ _ _)
      | (with_reducible exact ih1 _ _ _ _)
      | (with_reducible exact ih2 _ _ _ _ _ _ _ _)
      | (with_reducible exact ih3 _ _ _ _ _ _ _ _)
      | (with_reducible exact LeO.refl _)
      | (with_reducible exact LeO.none _)
      | (with_reducible refine LeO.ite ?_ ?_)
      | (with_reducible refine LeO.bind ?_ (fun _ => ?_))
      | exact ih0 _ _ _ _
      | exact ih1 _ _ _ _
      | exact ih2 _ _ _ _ _ _ _ _
      | exact ih3 _ _ _ _ _ _ _ _
      | exact LeO.none _
      | refine LeO.ite ?_ ?_
      | refine LeO.bind ?_ (fun _ => ?_)
theorem cobbleref07_CheckRules.mono : ∀ a0 a1 k, LeO (cobbleref07_CheckRules.f k a0 a1) (cobbleref07_CheckRules.f (k + 1) a0 a1) := by
  intro a0 a1 k
  obtain ⟨ih0, ih1, ih2, ih3⟩ := cobbleref07_CheckRules.mono_l k
  unfold cobbleref07_CheckRules.f
  repeat' first
      | (with_reducible exact ih0 _ _ _ _)
      | (with_reducible exact ih1 _ _ _ _)
      | (with_reducible exact ih2 _ _ _ _ _ _ _ _)
      | (with_reducible exact ih3 _ _ _ _ _ _ _ _)
      | (with_reducible exact LeO.refl _)
      | (with_reducible exact LeO.none _)
      | (with_reducible refine LeO.ite ?_ ?_)
      | (with_reducible refine LeO.bind ?_ (fun _ => ?_))
      | exact ih0 _ _ _ _
      | exact ih1 _ _ _ _
      | exact ih2 _ _ _ _ _ _ _ _
      | exact ih3 _ _ _ _ _ _ _ _
      | exact LeO.none _
      | refine LeO.ite ?_ ?_
      | refine LeO.bind ?_ (fun _ => ?_)
set_option maxHeartbeats 8000000 in
set_option maxRecDepth 100000 in
theorem cobbleref07_CheckRules.calls (k : Nat) (A0_0 : Option Addr) (c0_0 : Nat) (l0_0 : List Int) (A0_1 : Option Addr) (c0_1 : Nat) (l0_1 : List (S39)) (r1 : Int) (r2 : Int) (w : World) (hr0_0 : Kd.C (Kd.int .i64) w A0_0 l0_0.length l0_0) (hc0_0 : l0_0.length ≤ c0_0) (hr0_1 : Kd.C k39 w A0_1 l0_1.length l0_1) (hc0_1 : l0_1.length ≤ c0_1) (h : cobbleref07_CheckRules.f k l0_0 l0_1 = some (r1, r2)) :
    Calls Try.prog 32 #[.agg #[.slice A0_0 l0_0.length c0_0, .slice A0_1 l0_1.length c0_1]] w fun e w' => e = .returned (.tuple #[.int .i64 r1, .int .i64 r2]) ∧ Below w.heap.size w w' := by
  have hu25 := Try.underlying25
  have hu39 := Try.underlying39
  have HR0_0 := Aside0.mk hr0_0
  have HC0_0 := Aside0.mk hc0_0
  clear hr0_0 hc0_0
  have HR0_1 := Aside0.mk hr0_1
  have HC0_1 := Aside0.mk hc0_1
  clear hr0_1 hc0_1
  have HB := Aside0.mk (Below.refl w.heap.size w)
  have H : (if (l0_0.length : Int) = 0 then (some (0, 10)) else (if (l0_0.length : Int) > 9 then (some (0, 8)) else (cobbleref07_CheckRules.l0 k (l0_0.length : Int) 0 l0_0 l0_1))) = some (r1, r2) := h
  clear h
  by_cases c2 : (l0_0.length : Int) = 0
  · rw [if_pos c2] at H
    have c2b0 : ((l0_0.length : Int) == 0) = true := beq_iff_eq.mpr c2
    have c2b1 : ((l0_0.length : Int) != 0) = false := bne_eq_false_iff_eq.mpr c2
    clear c2
    simp only [Option.some.injEq, Prod.mk.injEq] at H
    obtain ⟨rfl, rfl⟩ := H
    go_enter Try.func32, Try.ntmps32
    go_wp2_with (first | ((with_reducible refine gate_dst (N := 1) rfl ?_); refine box_event ?hg (N := 1) ?hd (cs := #[.slice A0_0 l0_0.length c0_0, .slice A0_1 l0_1.length c0_1]) (t := 25) ?hr ?_; (case hd => rfl); (case hg => rfl); (case hr => first | (go_simp; done) | (go_simp; rfl)); intro gb192 hg w3 hbox hb; have n0_ := Aside0.mk (below_step (by repeat (first | (with_reducible first | exact HB.out | apply below_alloc | apply pw_below_drewN | apply below_drew1) | exact HB.out)) hb); have n1_ := Aside0.mk (hbox); have n2_ := Aside0.mk ((by rw [hg]; exact (below_size (by repeat (first | (with_reducible first | exact HB.out | apply below_alloc | apply pw_below_drewN | apply below_drew1) | exact HB.out))) : w.heap.size ≤ gb192)); have n3_ := Aside0.mk ((by rw [hg]; exact (below_size (by repeat (first | (with_reducible first | exact HB.out | apply below_alloc | apply pw_below_drewN | apply below_drew1) | exact HB.out))) : w.heap.size ≤ gb192)); clear HB; have HB := n0_; have BK192 := n1_; have GW192 := n2_; have GE192 := n3_; clear n0_ n1_ n2_ n3_; clear hb hbox hg; have hcz4_0 : w3.cell? ⟨gb192, 0, none⟩ = some (.slice A0_0 l0_0.length c0_0) := (blk_cell BK192.out 0).trans rfl; have hcz4_1 : w3.cell? ⟨gb192, 1, none⟩ = some (.slice A0_1 l0_1.length c0_1) := (blk_cell BK192.out 1).trans rfl; have hfz4_0 := blk_frozen BK192.out 0; have hfz4_1 := blk_frozen BK192.out 1))
    go_ret2
    exact ⟨by first | rfl | (simp [errW_none, errW_some] <;> rfl) | (simp [*, errW_none, errW_some] <;> rfl), by repeat (first | (with_reducible first | exact HB.out | apply below_alloc | apply pw_below_drewN | apply below_drew1 | refine below_set ?_ GE192.out) | exact HB.out)⟩
  · rw [if_neg c2] at H
    have c2b0 : ((l0_0.length : Int) == 0) = false := beq_eq_false_iff_ne.mpr c2
    have c2b1 : ((l0_0.length : Int) != 0) = true := bne_iff_ne.mpr c2
    have c2b2 : ¬ (l0_0 = []) := fun h_ => c2 (by rw [h_]; rfl)
    by_cases c5 : (l0_0.length : Int) > 9
    · rw [if_pos c5] at H
      have c5b0 : decide (9 < (l0_0.length : Int)) = true := decide_eq_true c5
      have c5b1 : decide (9 < l0_0.length) = true := decide_eq_true (by omega)
      clear c5
      simp only [Option.some.injEq, Prod.mk.injEq] at H
      obtain ⟨rfl, rfl⟩ := H
      go_enter Try.func32, Try.ntmps32
      go_wp2_with (first | ((with_reducible refine gate_dst (N := 1) rfl ?_); refine box_event ?hg (N := 1) ?hd (cs := #[.slice A0_0 l0_0.length c0_0, .slice A0_1 l0_1.length c0_1]) (t := 25) ?hr ?_; (case hd => rfl); (case hg => rfl); (case hr => first | (go_simp; done) | (go_simp; rfl)); intro gb192 hg w6 hbox hb; have n0_ := Aside0.mk (below_step (by repeat (first | (with_reducible first | exact HB.out | apply below_alloc | apply pw_below_drewN | apply below_drew1) | exact HB.out)) hb); have n1_ := Aside0.mk (hbox); have n2_ := Aside0.mk ((by rw [hg]; exact (below_size (by repeat (first | (with_reducible first | exact HB.out | apply below_alloc | apply pw_below_drewN | apply below_drew1) | exact HB.out))) : w.heap.size ≤ gb192)); have n3_ := Aside0.mk ((by rw [hg]; exact (below_size (by repeat (first | (with_reducible first | exact HB.out | apply below_alloc | apply pw_below_drewN | apply below_drew1) | exact HB.out))) : w.heap.size ≤ gb192)); clear HB; have HB := n0_; have BK192 := n1_; have GW192 := n2_; have GE192 := n3_; clear n0_ n1_ n2_ n3_; clear hb hbox hg; have hcz7_0 : w6.cell? ⟨gb192, 0, none⟩ = some (.slice A0_0 l0_0.length c0_0) := (blk_cell BK192.out 0).trans rfl; have hcz7_1 : w6.cell? ⟨gb192, 1, none⟩ = some (.slice A0_1 l0_1.length c0_1) := (blk_cell BK192.out 1).trans rfl; have hfz7_0 := blk_frozen BK192.out 0; have hfz7_1 := blk_frozen BK192.out 1))
      go_ret2
      exact ⟨by first | rfl | (simp [errW_none, errW_some] <;> rfl) | (simp [*, errW_none, errW_some] <;> rfl), by repeat (first | (with_reducible first | exact HB.out | apply below_alloc | apply pw_below_drewN | apply below_drew1 | refine below_set ?_ GE192.out) | exact HB.out)⟩
    · rw [if_neg c5] at H
      have c5b0 : decide (9 < (l0_0.length : Int)) = false := decide_eq_false c5
      have c5b1 : decide (9 < l0_0.length) = false := decide_eq_false (by omega)
      clear c5
      have H' := Aside0.mk H
      clear H
      go_enter Try.func32, Try.ntmps32
      go_wp2_with (first | ((with_reducible refine gate_dst (N := 1) rfl ?_); refine box_event ?hg (N := 1) ?hd (cs := #[.slice A0_0 l0_0.length c0_0, .slice A0_1 l0_1.length c0_1]) (t := 25) ?hr ?_; (case hd => rfl); (case hg => rfl); (case hr => first | (go_simp; done) | (go_simp; rfl)); intro gb192 hg w8 hbox hb; have n0_ := Aside0.mk (below_step (by repeat (first | (with_reducible first | exact HB.out | apply below_alloc | apply pw_below_drewN | apply below_drew1) | exact HB.out)) hb); have n1_ := Aside0.mk (hbox); have n2_ := Aside0.mk ((by rw [hg]; exact (below_size (by repeat (first | (with_reducible first | exact HB.out | apply below_alloc | apply pw_below_drewN | apply below_drew1) | exact HB.out))) : w.heap.size ≤ gb192)); have n3_ := Aside0.mk ((by rw [hg]; exact (below_size (by repeat (first | (with_reducible first | exact HB.out | apply below_alloc | apply pw_below_drewN | apply below_drew1) | exact HB.out))) : w.heap.size ≤ gb192)); clear HB; have HB := n0_; have BK192 := n1_; have GW192 := n2_; have GE192 := n3_; clear n0_ n1_ n2_ n3_; clear hb hbox hg; have hcz9_0 : w8.cell? ⟨gb192, 0, none⟩ = some (.slice A0_0 l0_0.length c0_0) := (blk_cell BK192.out 0).trans rfl; have hcz9_1 : w8.cell? ⟨gb192, 1, none⟩ = some (.slice A0_1 l0_1.length c0_1) := (blk_cell BK192.out 1).trans rfl; have hfz9_0 := blk_frozen BK192.out 0; have hfz9_1 := blk_frozen BK192.out 1))
      go_loopg [5] k (fun kq v5 w' => ∃ (x5_1 : Int), v5 = .int .i64 x5_1 ∧ Aside0 (cobbleref07_CheckRules.l0 kq (l0_0.length : Int) x5_1 l0_0 l0_1 = some (r1, r2)) ∧ Aside0 (kq ≤ k) ∧ Aside0 (w'.heap[gb192]? = some (.cells #[(.slice A0_0 l0_0.length c0_0), (.slice A0_1 l0_1.length c0_1)] 25 (0, 0))) ∧ Aside0 (Below w.heap.size w w'))
      case atStart => exact ⟨(0), (by first | rfl | (simp; done) | (simp [*]; done)), H', ⟨Nat.le_refl _⟩, ⟨by (with_reducible repeat (first | refine blk_drewN ?_ _ | refine blk_drew ?_ | refine blk_alloc ?_ _)); exact BK192.out⟩, ⟨by repeat (first | (with_reducible first | exact HB.out | apply below_alloc | apply pw_below_drewN | apply below_drew1 | refine below_set ?_ GE192.out) | exact HB.out)⟩⟩
      case round =>
        clear H'
        try clear c2
        try clear c2b0
        try clear c2b1
        try clear c2b2
        try clear p2
        try clear c3
        try clear c5
        try clear c5b0
        try clear c5b1
        try clear hcz4_0
        try clear hcz4_1
        try clear hcz7_0
        try clear hcz7_1
        try clear hcz9_0
        try clear hcz9_1
        try clear hfz4_0
        try clear hfz4_1
        try clear hfz7_0
        try clear hfz7_1
        try clear hfz9_0
        try clear hfz9_1
        obtain ⟨x5_1, rfl, HA, HK1, BK192, HB⟩ := hrel
        cases gk with
        | zero => exact absurd HA.out (by simp [cobbleref07_CheckRules.l0])
        | succ k1 =>
          have H := HA.out
          clear HA
          simp only [cobbleref07_CheckRules.l0] at H
          by_cases c10 : x5_1 < (l0_0.length : Int)
          · rw [if_pos c10] at H
            have c10b0 : decide (x5_1 < (l0_0.length : Int)) = true := decide_eq_true c10
            clear c10
            by_cases c11 : 0 ≤ x5_1
            · rw [if_pos c11] at H
              have c11b0 : decide (0 ≤ x5_1) = true := decide_eq_true c11
              clear c11
              by_cases c12 : x5_1 < (l0_0.length : Int)
              · rw [if_pos c12] at H
                have c12b0 : decide (x5_1 < (l0_0.length : Int)) = true := decide_eq_true c12
                clear c12
                replace H := Option.bind_eq_some_iff.mp H
                obtain ⟨t194, A130, H⟩ := H
                replace H : (if t194 = true then (cobbleref07_CheckRules.l0 k1 (l0_0.length : Int) (wrap64 (x5_1 + 1)) l0_0 l0_1) else (some (0, 2))) = some (r1, r2) := H
                have A13 := Aside0.mk A130
                clear A130
                by_cases c14 : t194 = true
                · subst c14
                  have H1 : (cobbleref07_CheckRules.l0 k1 (l0_0.length : Int) (wrap64 (x5_1 + 1)) l0_0 l0_1) = some (r1, r2) := by rw [if_pos rfl] at H; exact H
                  clear H
                  have H := H1
                  clear H1
                  have H' := Aside0.mk H
                  clear H
                  have hcz15_0 : wr.cell? ⟨gb192, 0, none⟩ = some (.slice A0_0 l0_0.length c0_0) := (blk_cell BK192.out 0).trans rfl
                  have hcz15_1 : wr.cell? ⟨gb192, 1, none⟩ = some (.slice A0_1 l0_1.length c0_1) := (blk_cell BK192.out 1).trans rfl
                  have hfz15_0 := blk_frozen BK192.out 0
                  have hfz15_1 := blk_frozen BK192.out 1
                  have p193 : 0 ≤ (x5_1 : Int) := of_decide_eq_true (by first | (with_reducible assumption) | assumption)
                  have q193 : x5_1 < (l0_0.length : Int) := of_decide_eq_true (by first | (with_reducible assumption) | assumption)
                  obtain ⟨ad193, e193, hx193_0⟩ := Kd.at_int HR0_0.out x5_1 p193 q193
                  cases e193
                  replace hx193_0 := (HB.out.cell (World.block_lt_of_cell? w _ hx193_0)).trans hx193_0
                  replace p193 := eq_true p193
                  replace q193 := eq_true q193
                  go_wp2_with (first | ((with_reducible refine gate_callee (f := 9) rfl ?_); refine goesL_ (some 26) rfl rfl Try.func9 (by kernel_rfl) rfl #[.int .i64 (rd l0_0 x5_1), .int .i64 (-100000), .int .i64 100000] rfl (by (try simp only [List.map_toArray, List.map_cons, List.map_nil]); first | done | rfl | (simp only [List.length_drop, List.length_take]; rfl)) ?_; (with_reducible refine (cobblebase_Within.calls (rd l0_0 x5_1) (-100000) 100000 true _ A13.out).mono ?_); rintro e w' ⟨rfl, ⟨nd, rfl⟩⟩; refine ⟨_, rfl, ?_⟩))
                  go_roundg k1
                  case measure => have := HK1.out; omega
                  case rel => exact ⟨(wrap64 (x5_1 + 1)), (by first | rfl | (simp; done) | (simp [*]; done)), H', ⟨by have := HK1.out; omega⟩, ⟨by (with_reducible repeat (first | refine blk_drewN ?_ _ | refine blk_drew ?_ | refine blk_alloc ?_ _)); exact BK192.out⟩, ⟨by repeat (first | (with_reducible first | exact HB.out | apply below_alloc | apply pw_below_drewN | apply below_drew1 | refine below_set ?_ GE192.out) | exact HB.out)⟩⟩
                · replace c14 := Bool.eq_false_iff.mpr c14
                  subst c14
                  have H1 : (some (0, 2)) = some (r1, r2) := by rw [if_neg (show ¬ (false = true) by decide)] at H; exact H
                  clear H
                  have H := H1
                  clear H1
                  simp only [Option.some.injEq, Prod.mk.injEq] at H
                  obtain ⟨rfl, rfl⟩ := H
                  have hcz16_0 : wr.cell? ⟨gb192, 0, none⟩ = some (.slice A0_0 l0_0.length c0_0) := (blk_cell BK192.out 0).trans rfl
                  have hcz16_1 : wr.cell? ⟨gb192, 1, none⟩ = some (.slice A0_1 l0_1.length c0_1) := (blk_cell BK192.out 1).trans rfl
                  have hfz16_0 := blk_frozen BK192.out 0
                  have hfz16_1 := blk_frozen BK192.out 1
                  have p193 : 0 ≤ (x5_1 : Int) := of_decide_eq_true (by first | (with_reducible assumption) | assumption)
                  have q193 : x5_1 < (l0_0.length : Int) := of_decide_eq_true (by first | (with_reducible assumption) | assumption)
                  obtain ⟨ad193, e193, hx193_0⟩ := Kd.at_int HR0_0.out x5_1 p193 q193
                  cases e193
                  replace hx193_0 := (HB.out.cell (World.block_lt_of_cell? w _ hx193_0)).trans hx193_0
                  replace p193 := eq_true p193
                  replace q193 := eq_true q193
                  go_wp2_with (first | ((with_reducible refine gate_callee (f := 9) rfl ?_); refine goesL_ (some 26) rfl rfl Try.func9 (by kernel_rfl) rfl #[.int .i64 (rd l0_0 x5_1), .int .i64 (-100000), .int .i64 100000] rfl (by (try simp only [List.map_toArray, List.map_cons, List.map_nil]); first | done | rfl | (simp only [List.length_drop, List.length_take]; rfl)) ?_; (with_reducible refine (cobblebase_Within.calls (rd l0_0 x5_1) (-100000) 100000 false _ A13.out).mono ?_); rintro e w' ⟨rfl, ⟨nd, rfl⟩⟩; refine ⟨_, rfl, ?_⟩))
                  go_ret2
                  exact ⟨by first | rfl | (simp [errW_none, errW_some] <;> rfl) | (simp [*, errW_none, errW_some] <;> rfl), by repeat (first | (with_reducible first | exact HB.out | apply below_alloc | apply pw_below_drewN | apply below_drew1 | refine below_set ?_ GE192.out) | exact HB.out)⟩
              · rw [if_neg c12] at H
                exact absurd H (by simp)
            · rw [if_neg c11] at H
              exact absurd H (by simp)
          · rw [if_neg c10] at H
            have c10b0 : decide (x5_1 < (l0_0.length : Int)) = false := decide_eq_false c10
            clear c10
            by_cases c17 : (l0_1.length : Int) = 0
            · rw [if_pos c17] at H
              have c17b0 : ((l0_1.length : Int) == 0) = true := beq_iff_eq.mpr c17
              have c17b1 : ((l0_1.length : Int) != 0) = false := bne_eq_false_iff_eq.mpr c17
              clear c17
              simp only [Option.some.injEq, Prod.mk.injEq] at H
              obtain ⟨rfl, rfl⟩ := H
              have hcz18_0 : wr.cell? ⟨gb192, 0, none⟩ = some (.slice A0_0 l0_0.length c0_0) := (blk_cell BK192.out 0).trans rfl
              have hcz18_1 : wr.cell? ⟨gb192, 1, none⟩ = some (.slice A0_1 l0_1.length c0_1) := (blk_cell BK192.out 1).trans rfl
              have hfz18_0 := blk_frozen BK192.out 0
              have hfz18_1 := blk_frozen BK192.out 1
              go_wp2
              go_ret2
              exact ⟨by first | rfl | (simp [errW_none, errW_some] <;> rfl) | (simp [*, errW_none, errW_some] <;> rfl), by repeat (first | (with_reducible first | exact HB.out | apply below_alloc | apply pw_below_drewN | apply below_drew1 | refine below_set ?_ GE192.out) | exact HB.out)⟩
            · rw [if_neg c17] at H
              have c17b0 : ((l0_1.length : Int) == 0) = false := beq_eq_false_iff_ne.mpr c17
              have c17b1 : ((l0_1.length : Int) != 0) = true := bne_iff_ne.mpr c17
              have c17b2 : ¬ (l0_1 = []) := fun h_ => c17 (by rw [h_]; rfl)
              by_cases c19 : (l0_1.length : Int) > 3
              · rw [if_pos c19] at H
                have c19b0 : decide (3 < (l0_1.length : Int)) = true := decide_eq_true c19
                have c19b1 : decide (3 < l0_1.length) = true := decide_eq_true (by omega)
                clear c19
                simp only [Option.some.injEq, Prod.mk.injEq] at H
                obtain ⟨rfl, rfl⟩ := H
                have hcz20_0 : wr.cell? ⟨gb192, 0, none⟩ = some (.slice A0_0 l0_0.length c0_0) := (blk_cell BK192.out 0).trans rfl
                have hcz20_1 : wr.cell? ⟨gb192, 1, none⟩ = some (.slice A0_1 l0_1.length c0_1) := (blk_cell BK192.out 1).trans rfl
                have hfz20_0 := blk_frozen BK192.out 0
                have hfz20_1 := blk_frozen BK192.out 1
                go_wp2
                go_ret2
                exact ⟨by first | rfl | (simp [errW_none, errW_some] <;> rfl) | (simp [*, errW_none, errW_some] <;> rfl), by repeat (first | (with_reducible first | exact HB.out | apply below_alloc | apply pw_below_drewN | apply below_drew1 | refine below_set ?_ GE192.out) | exact HB.out)⟩
              · rw [if_neg c19] at H
                have c19b0 : decide (3 < (l0_1.length : Int)) = false := decide_eq_false c19
                have c19b1 : decide (3 < l0_1.length) = false := decide_eq_false (by omega)
                clear c19
                have H' := Aside0.mk H
                clear H
                have hcz21_0 : wr.cell? ⟨gb192, 0, none⟩ = some (.slice A0_0 l0_0.length c0_0) := (blk_cell BK192.out 0).trans rfl
                have hcz21_1 : wr.cell? ⟨gb192, 1, none⟩ = some (.slice A0_1 l0_1.length c0_1) := (blk_cell BK192.out 1).trans rfl
                have hfz21_0 := blk_frozen BK192.out 0
                have hfz21_1 := blk_frozen BK192.out 1
                go_wp2
                go_loopg [6] k1 (fun kq v6 w' => ∃ (x6_2 : Int), v6 = .int .i64 x6_2 ∧ Aside0 (cobbleref07_CheckRules.l1 kq (l0_0.length : Int) x6_2 l0_0 l0_1 = some (r1, r2)) ∧ Aside0 (kq ≤ k1) ∧ Aside0 (w'.heap[gb192]? = some (.cells #[(.slice A0_0 l0_0.length c0_0), (.slice A0_1 l0_1.length c0_1)] 25 (0, 0))) ∧ Aside0 (Below w.heap.size w w'))
                case atStart => exact ⟨(0), (by first | rfl | (simp; done) | (simp [*]; done)), H', ⟨Nat.le_refl _⟩, ⟨by (with_reducible repeat (first | refine blk_drewN ?_ _ | refine blk_drew ?_ | refine blk_alloc ?_ _)); exact BK192.out⟩, ⟨by repeat (first | (with_reducible first | exact HB.out | apply below_alloc | apply pw_below_drewN | apply below_drew1 | refine below_set ?_ GE192.out) | exact HB.out)⟩⟩
                case round =>
                  clear H'
                  try clear c1
                  try clear p1
                  try clear q1
                  try clear hx1
                  try clear c2
                  try clear c2b0
                  try clear c2b1
                  try clear c2b2
                  try clear p2
                  try clear c3
                  try clear c5
                  try clear c5b0
                  try clear c5b1
                  try clear p6
                  try clear c9
                  try clear c10
                  try clear c10b0
                  try clear c11
                  try clear c11b0
                  try clear c12
                  try clear c12b0
                  try clear c14
                  try clear c17
                  try clear c17b0
                  try clear c17b1
                  try clear c17b2
                  try clear c19
                  try clear c19b0
                  try clear c19b1
                  try clear p19
                  try clear q19
                  try clear hx19
                  try clear hcz15_0
                  try clear hcz15_1
                  try clear hcz16_0
                  try clear hcz16_1
                  try clear hcz18_0
                  try clear hcz18_1
                  try clear hcz20_0
                  try clear hcz20_1
                  try clear hcz21_0
                  try clear hcz21_1
                  try clear hcz4_0
                  try clear hcz4_1
                  try clear hcz7_0
                  try clear hcz7_1
                  try clear hcz9_0
                  try clear hcz9_1
                  try clear hfz15_0
                  try clear hfz15_1
                  try clear hfz16_0
                  try clear hfz16_1
                  try clear hfz18_0
                  try clear hfz18_1
                  try clear hfz20_0
                  try clear hfz20_1
                  try clear hfz21_0
                  try clear hfz21_1
                  try clear hfz4_0
                  try clear hfz4_1
                  try clear hfz7_0
                  try clear hfz7_1
                  try clear hfz9_0
                  try clear hfz9_1
                  try clear hx193_0
                  try clear p193
                  try clear p2
                  try clear q193
                  obtain ⟨x6_2, rfl, HA, HK2, BK192, HB⟩ := hrel
                  cases gk with
                  | zero => exact absurd HA.out (by simp [cobbleref07_CheckRules.l1])
                  | succ k2 =>
                    have H := HA.out
                    clear HA
                    simp only [cobbleref07_CheckRules.l1] at H
                    by_cases c22 : x6_2 < (l0_1.length : Int)
                    · rw [if_pos c22] at H
                      have c22b0 : decide (x6_2 < (l0_1.length : Int)) = true := decide_eq_true c22
                      clear c22
                      by_cases c23 : 0 ≤ x6_2
                      · rw [if_pos c23] at H
                        have c23b0 : decide (0 ≤ x6_2) = true := decide_eq_true c23
                        clear c23
                        have HC24 := Aside0.mk H
                        clear H
                        have hcz25_0 : wr.cell? ⟨gb192, 0, none⟩ = some (.slice A0_0 l0_0.length c0_0) := (blk_cell BK192.out 0).trans rfl
                        have hcz25_1 : wr.cell? ⟨gb192, 1, none⟩ = some (.slice A0_1 l0_1.length c0_1) := (blk_cell BK192.out 1).trans rfl
                        have hfz25_0 := blk_frozen BK192.out 0
                        have hfz25_1 := blk_frozen BK192.out 1
                        have p195 : 0 ≤ (x6_2 : Int) := of_decide_eq_true (by first | (with_reducible assumption) | assumption)
                        have q195 : x6_2 < (l0_1.length : Int) := of_decide_eq_true (by first | (with_reducible assumption) | assumption)
                        obtain ⟨ad195, A195_2, c195_2, e195, hx195_0, hx195_1, hx195_2, hl195_2, hi195_2⟩ := at_T39 HR0_1.out x6_2 p195 q195
                        cases e195
                        replace hx195_0 := (HB.out.cell (World.block_lt_of_cell? w _ hx195_0)).trans hx195_0
                        replace hx195_1 := (HB.out.cell (World.block_lt_of_cell? w _ hx195_1)).trans hx195_1
                        replace hx195_2 := (HB.out.cell (World.block_lt_of_cell? w _ hx195_2)).trans hx195_2
                        have HR195_2 := Aside0.mk hi195_2
                        have HC195_2 := Aside0.mk hl195_2
                        clear hi195_2 hl195_2
                        replace p195 := eq_true p195
                        replace q195 := eq_true q195
                        go_upto_region 19 with (first | ((with_reducible refine gate_dst (N := 7) rfl ?_); refine box_event ?hg (N := 7) ?hd (cs := #[.int .i64 0, .int .i64 0, .slice none 0 0]) (t := 39) ?hr ?_; (case hd => rfl); (case hg => rfl); (case hr => first | (go_simp; done) | (go_simp; rfl)); intro gb196 hg w26 hbox hb; have n0_ := Aside0.mk (blk_below (g := gb192) (o := .cells #[.slice A0_0 l0_0.length c0_0, .slice (some ad195) l0_1.length c0_1] 25 (0, 0)) (by (with_reducible repeat (first | refine blk_drewN ?_ _ | refine blk_drew ?_ | refine blk_alloc ?_ _)); exact BK192.out) hb); have n1_ := Aside0.mk (below_step (by repeat (first | (with_reducible first | exact HB.out | apply below_alloc | apply pw_below_drewN | apply below_drew1 | refine below_set ?_ GE192.out) | exact HB.out)) hb); have n2_ := Aside0.mk (hbox); have n3_ := Aside0.mk ((by rw [hg]; exact (below_size (by repeat (first | (with_reducible first | exact HB.out | apply below_alloc | apply pw_below_drewN | apply below_drew1 | refine below_set ?_ GE192.out) | exact HB.out))) : w.heap.size ≤ gb196)); have n4_ := Aside0.mk ((by rw [hg]; exact (below_size (by repeat (first | (with_reducible first | exact HB.out | apply below_alloc | apply pw_below_drewN | apply below_drew1 | refine below_set ?_ GE192.out) | exact HB.out))) : w.heap.size ≤ gb196)); have n5_ := Aside0.mk ((by rw [hg]; exact Nat.ne_of_lt (blk_lt (g := gb192) (o := .cells #[.slice A0_0 l0_0.length c0_0, .slice (some ad195) l0_1.length c0_1] 25 (0, 0)) (by (with_reducible repeat (first | refine blk_drewN ?_ _ | refine blk_drew ?_ | refine blk_alloc ?_ _)); exact BK192.out)) : gb192 ≠ gb196)); have n6_ := Aside0.mk ((by rw [hg]; exact Nat.ne_of_gt (blk_lt (g := gb192) (o := .cells #[.slice A0_0 l0_0.length c0_0, .slice (some ad195) l0_1.length c0_1] 25 (0, 0)) (by (with_reducible repeat (first | refine blk_drewN ?_ _ | refine blk_drew ?_ | refine blk_alloc ?_ _)); exact BK192.out)) : gb196 ≠ gb192)); clear BK192; clear HB; have BK192 := n0_; have HB := n1_; have BK196 := n2_; have GW196 := n3_; have GE196 := n4_; have NB192_196 := n5_; have NB196_192 := n6_; clear n0_ n1_ n2_ n3_ n4_ n5_ n6_; clear hb hbox hg; have hnb27 := NB196_192.out; have hnc27 := NB192_196.out; have hcz28_0 : w26.cell? ⟨gb196, 0, none⟩ = some (.int .i64 0) := (blk_cell BK196.out 0).trans rfl; have hcz28_1 : w26.cell? ⟨gb196, 1, none⟩ = some (.int .i64 0) := (blk_cell BK196.out 1).trans rfl; have hcz28_2 : w26.cell? ⟨gb196, 2, none⟩ = some (.slice none 0 0) := (blk_cell BK196.out 2).trans rfl; have hfz28_0 := blk_frozen BK196.out 0; have hfz28_1 := blk_frozen BK196.out 1; have hfz28_2 := blk_frozen BK196.out 2))
                        (try simp only [Act.put, List.setIfInBounds_toArray, List.set_cons_zero, List.set_cons_succ])
                        go_cut [59] (fun v59 wc => ∃ (kq : Nat) (x59_23 : Bool), v59 = .bool x59_23 ∧ Aside0 (cobbleref07_CheckRules.j2 kq (l0_0.length : Int) x6_2 x59_23 l0_0 l0_1 ((rd_T39 l0_1 x6_2).f0.f0) ((rd_T39 l0_1 x6_2).f0.f1) ((rd_T39 l0_1 x6_2).f1) = some (r1, r2)) ∧ Aside0 (kq ≤ k2) ∧ Aside0 (wc.heap[gb192]? = some (.cells #[(.slice A0_0 l0_0.length c0_0), (.slice (some ad195) l0_1.length c0_1)] 25 (0, 0))) ∧ Aside0 (wc.heap[gb196]? = some (.cells #[.int .i64 ((rd_T39 l0_1 x6_2).f0.f0), .int .i64 ((rd_T39 l0_1 x6_2).f0.f1), (.slice A195_2 ((rd_T39 l0_1 x6_2).f1).length c195_2)] 39 (0, 0))) ∧ Aside0 (Below w.heap.size w wc))
                        case first =>
                          have H := HC24.out
                          clear HC24
                          replace H := Option.bind_eq_some_iff.mp H
                          obtain ⟨t197, A290, H⟩ := H
                          replace H : (if t197 = true then ((cobblebase_Within.f ((rd_T39 l0_1 x6_2).f0.f1) (-10) 10).bind fun t198 => (cobbleref07_CheckRules.j2 k2 (l0_0.length : Int) x6_2 (!t198) l0_0 l0_1 ((rd_T39 l0_1 x6_2).f0.f0) ((rd_T39 l0_1 x6_2).f0.f1) ((rd_T39 l0_1 x6_2).f1))) else (cobbleref07_CheckRules.j2 k2 (l0_0.length : Int) x6_2 true l0_0 l0_1 ((rd_T39 l0_1 x6_2).f0.f0) ((rd_T39 l0_1 x6_2).f0.f1) ((rd_T39 l0_1 x6_2).f1))) = some (r1, r2) := H
                          have A29 := Aside0.mk A290
                          clear A290
                          by_cases c30 : t197 = true
                          · subst c30
                            have H1 : ((cobblebase_Within.f ((rd_T39 l0_1 x6_2).f0.f1) (-10) 10).bind fun t198 => (cobbleref07_CheckRules.j2 k2 (l0_0.length : Int) x6_2 (!t198) l0_0 l0_1 ((rd_T39 l0_1 x6_2).f0.f0) ((rd_T39 l0_1 x6_2).f0.f1) ((rd_T39 l0_1 x6_2).f1))) = some (r1, r2) := by rw [if_pos rfl] at H; exact H
                            clear H
                            have H := H1
                            clear H1
                            replace H := Option.bind_eq_some_iff.mp H
                            obtain ⟨t198, A310, H⟩ := H
                            replace H : (cobbleref07_CheckRules.j2 k2 (l0_0.length : Int) x6_2 (!t198) l0_0 l0_1 ((rd_T39 l0_1 x6_2).f0.f0) ((rd_T39 l0_1 x6_2).f0.f1) ((rd_T39 l0_1 x6_2).f1)) = some (r1, r2) := H
                            have A31 := Aside0.mk A310
                            clear A310
                            have H' := Aside0.mk H
                            clear H
                            have hnb32 := NB196_192.out
                            have hnc32 := NB192_196.out
                            have hcz33_0 : w26.cell? ⟨gb196, 0, none⟩ = some (.int .i64 0) := (blk_cell BK196.out 0).trans rfl
                            have hcz33_1 : w26.cell? ⟨gb196, 1, none⟩ = some (.int .i64 0) := (blk_cell BK196.out 1).trans rfl
                            have hcz33_2 : w26.cell? ⟨gb196, 2, none⟩ = some (.slice none 0 0) := (blk_cell BK196.out 2).trans rfl
                            have hfz33_0 := blk_frozen BK196.out 0
                            have hfz33_1 := blk_frozen BK196.out 1
                            have hfz33_2 := blk_frozen BK196.out 2
                            go_wp2_with (first | ((with_reducible refine gate_callee (f := 9) rfl ?_); refine goesL_ (some 51) rfl rfl Try.func9 (by kernel_rfl) rfl #[.int .i64 ((rd_T39 l0_1 x6_2).f0.f0), .int .i64 (-10), .int .i64 10] rfl (by (try simp only [List.map_toArray, List.map_cons, List.map_nil]); first | done | rfl | (simp only [List.length_drop, List.length_take]; rfl)) ?_; (with_reducible refine (cobblebase_Within.calls ((rd_T39 l0_1 x6_2).f0.f0) (-10) 10 true _ A29.out).mono ?_); rintro e w' ⟨rfl, ⟨nd, rfl⟩⟩; refine ⟨_, rfl, ?_⟩) | (go_at_call 9; (with_reducible refine (cobblebase_Within.calls ((rd_T39 l0_1 x6_2).f0.f1) (-10) 10 t198 _ A31.out).mono ?_); rintro e w' ⟨rfl, ⟨nd, rfl⟩⟩))
                            go_meet
                            case rel => exact ⟨_, (!t198), (by first | rfl | (simp; done) | (simp [*]; done)), H', ⟨by have := HK1.out; have := HK2.out; first | omega | exact Nat.le_refl _⟩, ⟨by (with_reducible repeat (first | refine blk_drewN ?_ _ | refine blk_drew ?_ | refine blk_alloc ?_ _)); refine blk_far ?_ NB192_196.out _; (with_reducible repeat (first | refine blk_drewN ?_ _ | refine blk_drew ?_ | refine blk_alloc ?_ _)); refine blk_far ?_ NB192_196.out _; (with_reducible repeat (first | refine blk_drewN ?_ _ | refine blk_drew ?_ | refine blk_alloc ?_ _)); refine blk_far ?_ NB192_196.out _; (with_reducible repeat (first | refine blk_drewN ?_ _ | refine blk_drew ?_ | refine blk_alloc ?_ _)); exact BK192.out⟩, ⟨by (with_reducible repeat (first | refine blk_drewN ?_ _ | refine blk_drew ?_ | refine blk_alloc ?_ _)); refine blk_put (cs := #[.int .i64 ((rd_T39 l0_1 x6_2).f0.f0), .int .i64 ((rd_T39 l0_1 x6_2).f0.f1), .slice none 0 0]) ?_ 2 _ rfl; (with_reducible repeat (first | refine blk_drewN ?_ _ | refine blk_drew ?_ | refine blk_alloc ?_ _)); refine blk_put (cs := #[.int .i64 ((rd_T39 l0_1 x6_2).f0.f0), .int .i64 0, .slice none 0 0]) ?_ 1 _ rfl; (with_reducible repeat (first | refine blk_drewN ?_ _ | refine blk_drew ?_ | refine blk_alloc ?_ _)); refine blk_put (cs := #[.int .i64 0, .int .i64 0, .slice none 0 0]) ?_ 0 _ rfl; (with_reducible repeat (first | refine blk_drewN ?_ _ | refine blk_drew ?_ | refine blk_alloc ?_ _)); exact BK196.out⟩, ⟨by repeat (first | (with_reducible first | exact HB.out | apply below_alloc | apply pw_below_drewN | apply below_drew1 | refine below_set ?_ GE192.out | refine below_set ?_ GE196.out) | exact HB.out)⟩⟩
                          · replace c30 := Bool.eq_false_iff.mpr c30
                            subst c30
                            have H1 : (cobbleref07_CheckRules.j2 k2 (l0_0.length : Int) x6_2 true l0_0 l0_1 ((rd_T39 l0_1 x6_2).f0.f0) ((rd_T39 l0_1 x6_2).f0.f1) ((rd_T39 l0_1 x6_2).f1)) = some (r1, r2) := by rw [if_neg (show ¬ (false = true) by decide)] at H; exact H
                            clear H
                            have H := H1
                            clear H1
                            have H' := Aside0.mk H
                            clear H
                            have hnb34 := NB196_192.out
                            have hnc34 := NB192_196.out
                            have hcz35_0 : w26.cell? ⟨gb196, 0, none⟩ = some (.int .i64 0) := (blk_cell BK196.out 0).trans rfl
                            have hcz35_1 : w26.cell? ⟨gb196, 1, none⟩ = some (.int .i64 0) := (blk_cell BK196.out 1).trans rfl
                            have hcz35_2 : w26.cell? ⟨gb196, 2, none⟩ = some (.slice none 0 0) := (blk_cell BK196.out 2).trans rfl
                            have hfz35_0 := blk_frozen BK196.out 0
                            have hfz35_1 := blk_frozen BK196.out 1
                            have hfz35_2 := blk_frozen BK196.out 2
                            go_wp2_with (first | ((with_reducible refine gate_callee (f := 9) rfl ?_); refine goesL_ (some 51) rfl rfl Try.func9 (by kernel_rfl) rfl #[.int .i64 ((rd_T39 l0_1 x6_2).f0.f0), .int .i64 (-10), .int .i64 10] rfl (by (try simp only [List.map_toArray, List.map_cons, List.map_nil]); first | done | rfl | (simp only [List.length_drop, List.length_take]; rfl)) ?_; (with_reducible refine (cobblebase_Within.calls ((rd_T39 l0_1 x6_2).f0.f0) (-10) 10 false _ A29.out).mono ?_); rintro e w' ⟨rfl, ⟨nd, rfl⟩⟩; refine ⟨_, rfl, ?_⟩))
                            go_meet
                            case rel => exact ⟨_, (true), (by first | rfl | (simp; done) | (simp [*]; done)), H', ⟨by have := HK1.out; have := HK2.out; first | omega | exact Nat.le_refl _⟩, ⟨by (with_reducible repeat (first | refine blk_drewN ?_ _ | refine blk_drew ?_ | refine blk_alloc ?_ _)); refine blk_far ?_ NB192_196.out _; (with_reducible repeat (first | refine blk_drewN ?_ _ | refine blk_drew ?_ | refine blk_alloc ?_ _)); refine blk_far ?_ NB192_196.out _; (with_reducible repeat (first | refine blk_drewN ?_ _ | refine blk_drew ?_ | refine blk_alloc ?_ _)); refine blk_far ?_ NB192_196.out _; (with_reducible repeat (first | refine blk_drewN ?_ _ | refine blk_drew ?_ | refine blk_alloc ?_ _)); exact BK192.out⟩, ⟨by (with_reducible repeat (first | refine blk_drewN ?_ _ | refine blk_drew ?_ | refine blk_alloc ?_ _)); refine blk_put (cs := #[.int .i64 ((rd_T39 l0_1 x6_2).f0.f0), .int .i64 ((rd_T39 l0_1 x6_2).f0.f1), .slice none 0 0]) ?_ 2 _ rfl; (with_reducible repeat (first | refine blk_drewN ?_ _ | refine blk_drew ?_ | refine blk_alloc ?_ _)); refine blk_put (cs := #[.int .i64 ((rd_T39 l0_1 x6_2).f0.f0), .int .i64 0, .slice none 0 0]) ?_ 1 _ rfl; (with_reducible repeat (first | refine blk_drewN ?_ _ | refine blk_drew ?_ | refine blk_alloc ?_ _)); refine blk_put (cs := #[.int .i64 0, .int .i64 0, .slice none 0 0]) ?_ 0 _ rfl; (with_reducible repeat (first | refine blk_drewN ?_ _ | refine blk_drew ?_ | refine blk_alloc ?_ _)); exact BK196.out⟩, ⟨by repeat (first | (with_reducible first | exact HB.out | apply below_alloc | apply pw_below_drewN | apply below_drew1 | refine below_set ?_ GE192.out | refine below_set ?_ GE196.out) | exact HB.out)⟩⟩
                        case rest =>
                          clear HC24
                          try clear c1
                          try clear p1
                          try clear q1
                          try clear hx1
                          try clear c2
                          try clear c2b0
                          try clear c2b1
                          try clear c2b2
                          try clear p2
                          try clear c3
                          try clear c5
                          try clear c5b0
                          try clear c5b1
                          try clear p6
                          try clear c9
                          try clear c10
                          try clear c10b0
                          try clear c11
                          try clear c11b0
                          try clear c12
                          try clear c12b0
                          try clear c14
                          try clear c17
                          try clear c17b0
                          try clear c17b1
                          try clear c17b2
                          try clear c19
                          try clear c19b0
                          try clear c19b1
                          try clear p19
                          try clear q19
                          try clear hx19
                          try clear c22
                          try clear c22b0
                          try clear c23
                          try clear c23b0
                          try clear c27
                          try clear c30
                          try clear c32
                          try clear c34
                          try clear hcz15_0
                          try clear hcz15_1
                          try clear hcz16_0
                          try clear hcz16_1
                          try clear hcz18_0
                          try clear hcz18_1
                          try clear hcz20_0
                          try clear hcz20_1
                          try clear hcz21_0
                          try clear hcz21_1
                          try clear hcz25_0
                          try clear hcz25_1
                          try clear hcz28_0
                          try clear hcz28_1
                          try clear hcz28_2
                          try clear hcz33_0
                          try clear hcz33_1
                          try clear hcz33_2
                          try clear hcz35_0
                          try clear hcz35_1
                          try clear hcz35_2
                          try clear hcz4_0
                          try clear hcz4_1
                          try clear hcz7_0
                          try clear hcz7_1
                          try clear hcz9_0
                          try clear hcz9_1
                          try clear hfz15_0
                          try clear hfz15_1
                          try clear hfz16_0
                          try clear hfz16_1
                          try clear hfz18_0
                          try clear hfz18_1
                          try clear hfz20_0
                          try clear hfz20_1
                          try clear hfz21_0
                          try clear hfz21_1
                          try clear hfz25_0
                          try clear hfz25_1
                          try clear hfz28_0
                          try clear hfz28_1
                          try clear hfz28_2
                          try clear hfz33_0
                          try clear hfz33_1
                          try clear hfz33_2
                          try clear hfz35_0
                          try clear hfz35_1
                          try clear hfz35_2
                          try clear hfz4_0
                          try clear hfz4_1
                          try clear hfz7_0
                          try clear hfz7_1
                          try clear hfz9_0
                          try clear hfz9_1
                          try clear hx193_0
                          try clear hx195_0
                          try clear hx195_1
                          try clear hx195_2
                          try clear p1
                          try clear p19
                          try clear p193
                          try clear p195
                          try clear p2
                          try clear p6
                          try clear q1
                          try clear q19
                          try clear q193
                          try clear q195
                          obtain ⟨kq, x59_23, rfl, HA, HJ23, BK192, BK196, HB⟩ := hcut
                          cases kq with
                          | zero => exact absurd HA.out (by simp [cobbleref07_CheckRules.j2])
                          | succ kj23 =>
                            have H := HA.out
                            clear HA
                            simp only [cobbleref07_CheckRules.j2] at H
                            by_cases c36 : x59_23 = true
                            · subst c36
                              have H1 : (some (x6_2, 2)) = some (r1, r2) := by rw [if_pos rfl] at H; exact H
                              clear H
                              have H := H1
                              clear H1
                              simp only [Option.some.injEq, Prod.mk.injEq] at H
                              obtain ⟨rfl, rfl⟩ := H
                              go_wp2
                              go_ret2
                              exact ⟨by first | rfl | (simp [errW_none, errW_some] <;> rfl) | (simp [*, errW_none, errW_some] <;> rfl), by repeat (first | (with_reducible first | exact HB.out | apply below_alloc | apply pw_below_drewN | apply below_drew1 | refine below_set ?_ GE192.out | refine below_set ?_ GE196.out) | exact HB.out)⟩
                            · replace c36 := Bool.eq_false_iff.mpr c36
                              subst c36
                              have H1 : (if ((rd_T39 l0_1 x6_2).f0.f0) > ((rd_T39 l0_1 x6_2).f0.f1) then (some (x6_2, 9)) else (if (((rd_T39 l0_1 x6_2).f1).length : Int) = (l0_0.length : Int) then (cobbleref07_CheckRules.l2 kj23 (l0_0.length : Int) x6_2 0 l0_0 l0_1 ((rd_T39 l0_1 x6_2).f0.f0) ((rd_T39 l0_1 x6_2).f0.f1) ((rd_T39 l0_1 x6_2).f1)) else (some (x6_2, 10)))) = some (r1, r2) := by rw [if_neg (show ¬ (false = true) by decide)] at H; exact H
                              clear H
                              have H := H1
                              clear H1
                              by_cases c37 : ((rd_T39 l0_1 x6_2).f0.f0) > ((rd_T39 l0_1 x6_2).f0.f1)
                              · rw [if_pos c37] at H
                                have c37b0 : decide (((rd_T39 l0_1 x6_2).f0.f1) < ((rd_T39 l0_1 x6_2).f0.f0)) = true := decide_eq_true c37
                                clear c37
                                simp only [Option.some.injEq, Prod.mk.injEq] at H
                                obtain ⟨rfl, rfl⟩ := H
                                have hnb38 := NB196_192.out
                                have hnc38 := NB192_196.out
                                have hcz39_0 : wc.cell? ⟨gb196, 0, none⟩ = some (.int .i64 ((rd_T39 l0_1 x6_2).f0.f0)) := (blk_cell BK196.out 0).trans rfl
                                have hcz39_1 : wc.cell? ⟨gb196, 1, none⟩ = some (.int .i64 ((rd_T39 l0_1 x6_2).f0.f1)) := (blk_cell BK196.out 1).trans rfl
                                have hcz39_2 : wc.cell? ⟨gb196, 2, none⟩ = some (.slice A195_2 ((rd_T39 l0_1 x6_2).f1).length c195_2) := (blk_cell BK196.out 2).trans rfl
                                have hfz39_0 := blk_frozen BK196.out 0
                                have hfz39_1 := blk_frozen BK196.out 1
                                have hfz39_2 := blk_frozen BK196.out 2
                                go_wp2
                                go_ret2
                                exact ⟨by first | rfl | (simp [errW_none, errW_some] <;> rfl) | (simp [*, errW_none, errW_some] <;> rfl), by repeat (first | (with_reducible first | exact HB.out | apply below_alloc | apply pw_below_drewN | apply below_drew1 | refine below_set ?_ GE192.out | refine below_set ?_ GE196.out) | exact HB.out)⟩
                              · rw [if_neg c37] at H
                                have c37b0 : decide (((rd_T39 l0_1 x6_2).f0.f1) < ((rd_T39 l0_1 x6_2).f0.f0)) = false := decide_eq_false c37
                                clear c37
                                by_cases c40 : (((rd_T39 l0_1 x6_2).f1).length : Int) = (l0_0.length : Int)
                                · rw [if_pos c40] at H
                                  have c40b0 : ((((rd_T39 l0_1 x6_2).f1).length : Int) == (l0_0.length : Int)) = true := beq_iff_eq.mpr c40
                                  have c40b1 : ((((rd_T39 l0_1 x6_2).f1).length : Int) != (l0_0.length : Int)) = false := bne_eq_false_iff_eq.mpr c40
                                  have c40b2 : (((rd_T39 l0_1 x6_2).f1).length == l0_0.length) = true := by first | simpa using c40 | (simp at c40 ⊢; omega)
                                  clear c40
                                  have H' := Aside0.mk H
                                  clear H
                                  have hnb41 := NB196_192.out
                                  have hnc41 := NB192_196.out
                                  have hcz42_0 : wc.cell? ⟨gb196, 0, none⟩ = some (.int .i64 ((rd_T39 l0_1 x6_2).f0.f0)) := (blk_cell BK196.out 0).trans rfl
                                  have hcz42_1 : wc.cell? ⟨gb196, 1, none⟩ = some (.int .i64 ((rd_T39 l0_1 x6_2).f0.f1)) := (blk_cell BK196.out 1).trans rfl
                                  have hcz42_2 : wc.cell? ⟨gb196, 2, none⟩ = some (.slice A195_2 ((rd_T39 l0_1 x6_2).f1).length c195_2) := (blk_cell BK196.out 2).trans rfl
                                  have hfz42_0 := blk_frozen BK196.out 0
                                  have hfz42_1 := blk_frozen BK196.out 1
                                  have hfz42_2 := blk_frozen BK196.out 2
                                  go_wp2
                                  go_loopg [8] kj23 (fun kq v8 w' => ∃ (x8_4 : Int), v8 = .int .i64 x8_4 ∧ Aside0 (cobbleref07_CheckRules.l2 kq (l0_0.length : Int) x6_2 x8_4 l0_0 l0_1 ((rd_T39 l0_1 x6_2).f0.f0) ((rd_T39 l0_1 x6_2).f0.f1) ((rd_T39 l0_1 x6_2).f1) = some (r1, r2)) ∧ Aside0 (kq ≤ kj23) ∧ Aside0 (w'.heap[gb192]? = some (.cells #[(.slice A0_0 l0_0.length c0_0), (.slice (some ad195) l0_1.length c0_1)] 25 (0, 0))) ∧ Aside0 (w'.heap[gb196]? = some (.cells #[.int .i64 ((rd_T39 l0_1 x6_2).f0.f0), .int .i64 ((rd_T39 l0_1 x6_2).f0.f1), (.slice A195_2 ((rd_T39 l0_1 x6_2).f1).length c195_2)] 39 (0, 0))) ∧ Aside0 (Below w.heap.size w w'))
                                  case atStart => exact ⟨(0), (by first | rfl | (simp; done) | (simp [*]; done)), H', ⟨Nat.le_refl _⟩, ⟨by (with_reducible repeat (first | refine blk_drewN ?_ _ | refine blk_drew ?_ | refine blk_alloc ?_ _)); exact BK192.out⟩, ⟨by (with_reducible repeat (first | refine blk_drewN ?_ _ | refine blk_drew ?_ | refine blk_alloc ?_ _)); exact BK196.out⟩, ⟨by repeat (first | (with_reducible first | exact HB.out | apply below_alloc | apply pw_below_drewN | apply below_drew1 | refine below_set ?_ GE192.out | refine below_set ?_ GE196.out) | exact HB.out)⟩⟩
                                  case round =>
                                    clear H'
                                    try clear c1
                                    try clear p1
                                    try clear q1
                                    try clear hx1
                                    try clear c2
                                    try clear c2b0
                                    try clear c2b1
                                    try clear c2b2
                                    try clear p2
                                    try clear c3
                                    try clear c4
                                    try clear c5
                                    try clear c5b0
                                    try clear c5b1
                                    try clear p6
                                    try clear c9
                                    try clear c10
                                    try clear c10b0
                                    try clear c11
                                    try clear c11b0
                                    try clear c12
                                    try clear c12b0
                                    try clear c14
                                    try clear c17
                                    try clear c17b0
                                    try clear c17b1
                                    try clear c17b2
                                    try clear c19
                                    try clear c19b0
                                    try clear c19b1
                                    try clear p19
                                    try clear q19
                                    try clear hx19
                                    try clear c22
                                    try clear c22b0
                                    try clear c23
                                    try clear c23b0
                                    try clear c27
                                    try clear c30
                                    try clear c32
                                    try clear c34
                                    try clear c36
                                    try clear c37
                                    try clear c37b0
                                    try clear c38
                                    try clear c40
                                    try clear c40b0
                                    try clear c40b1
                                    try clear c40b2
                                    try clear c41
                                    try clear hcz15_0
                                    try clear hcz15_1
                                    try clear hcz16_0
                                    try clear hcz16_1
                                    try clear hcz18_0
                                    try clear hcz18_1
                                    try clear hcz20_0
                                    try clear hcz20_1
                                    try clear hcz21_0
                                    try clear hcz21_1
                                    try clear hcz25_0
                                    try clear hcz25_1
                                    try clear hcz28_0
                                    try clear hcz28_1
                                    try clear hcz28_2
                                    try clear hcz33_0
                                    try clear hcz33_1
                                    try clear hcz33_2
                                    try clear hcz35_0
                                    try clear hcz35_1
                                    try clear hcz35_2
                                    try clear hcz39_0
                                    try clear hcz39_1
                                    try clear hcz39_2
                                    try clear hcz42_0
                                    try clear hcz42_1
                                    try clear hcz42_2
                                    try clear hcz4_0
                                    try clear hcz4_1
                                    try clear hcz7_0
                                    try clear hcz7_1
                                    try clear hcz9_0
                                    try clear hcz9_1
                                    try clear hfz15_0
                                    try clear hfz15_1
                                    try clear hfz16_0
                                    try clear hfz16_1
                                    try clear hfz18_0
                                    try clear hfz18_1
                                    try clear hfz20_0
                                    try clear hfz20_1
                                    try clear hfz21_0
                                    try clear hfz21_1
                                    try clear hfz25_0
                                    try clear hfz25_1
                                    try clear hfz28_0
                                    try clear hfz28_1
                                    try clear hfz28_2
                                    try clear hfz33_0
                                    try clear hfz33_1
                                    try clear hfz33_2
                                    try clear hfz35_0
                                    try clear hfz35_1
                                    try clear hfz35_2
                                    try clear hfz39_0
                                    try clear hfz39_1
                                    try clear hfz39_2
                                    try clear hfz42_0
                                    try clear hfz42_1
                                    try clear hfz42_2
                                    try clear hfz4_0
                                    try clear hfz4_1
                                    try clear hfz7_0
                                    try clear hfz7_1
                                    try clear hfz9_0
                                    try clear hfz9_1
                                    try clear hx193_0
                                    try clear hx195_0
                                    try clear hx195_1
                                    try clear hx195_2
                                    try clear p1
                                    try clear p19
                                    try clear p193
                                    try clear p195
                                    try clear p2
                                    try clear p6
                                    try clear q1
                                    try clear q19
                                    try clear q193
                                    try clear q195
                                    obtain ⟨x8_4, rfl, HA, HK4, BK192, BK196, HB⟩ := hrel
                                    cases gk with
                                    | zero => exact absurd HA.out (by simp [cobbleref07_CheckRules.l2])
                                    | succ k4 =>
                                      have H := HA.out
                                      clear HA
                                      simp only [cobbleref07_CheckRules.l2] at H
                                      by_cases c43 : x8_4 < (l0_0.length : Int)
                                      · rw [if_pos c43] at H
                                        have c43b0 : decide (x8_4 < (l0_0.length : Int)) = true := decide_eq_true c43
                                        clear c43
                                        by_cases c44 : 0 ≤ x8_4
                                        · rw [if_pos c44] at H
                                          have c44b0 : decide (0 ≤ x8_4) = true := decide_eq_true c44
                                          clear c44
                                          by_cases c45 : x8_4 < (((rd_T39 l0_1 x6_2).f1).length : Int)
                                          · rw [if_pos c45] at H
                                            have c45b0 : decide (x8_4 < (((rd_T39 l0_1 x6_2).f1).length : Int)) = true := decide_eq_true c45
                                            clear c45
                                            replace H := Option.bind_eq_some_iff.mp H
                                            obtain ⟨t200, A460, H⟩ := H
                                            replace H : (if t200 = true then (cobbleref07_CheckRules.l2 k4 (l0_0.length : Int) x6_2 (wrap64 (x8_4 + 1)) l0_0 l0_1 ((rd_T39 l0_1 x6_2).f0.f0) ((rd_T39 l0_1 x6_2).f0.f1) ((rd_T39 l0_1 x6_2).f1)) else (some (x6_2, 2))) = some (r1, r2) := H
                                            have A46 := Aside0.mk A460
                                            clear A460
                                            by_cases c47 : t200 = true
                                            · subst c47
                                              have H1 : (cobbleref07_CheckRules.l2 k4 (l0_0.length : Int) x6_2 (wrap64 (x8_4 + 1)) l0_0 l0_1 ((rd_T39 l0_1 x6_2).f0.f0) ((rd_T39 l0_1 x6_2).f0.f1) ((rd_T39 l0_1 x6_2).f1)) = some (r1, r2) := by rw [if_pos rfl] at H; exact H
                                              clear H
                                              have H := H1
                                              clear H1
                                              have H' := Aside0.mk H
                                              clear H
                                              have hnb48 := NB196_192.out
                                              have hnc48 := NB192_196.out
                                              have hcz49_0 : wr.cell? ⟨gb196, 0, none⟩ = some (.int .i64 ((rd_T39 l0_1 x6_2).f0.f0)) := (blk_cell BK196.out 0).trans rfl
                                              have hcz49_1 : wr.cell? ⟨gb196, 1, none⟩ = some (.int .i64 ((rd_T39 l0_1 x6_2).f0.f1)) := (blk_cell BK196.out 1).trans rfl
                                              have hcz49_2 : wr.cell? ⟨gb196, 2, none⟩ = some (.slice A195_2 ((rd_T39 l0_1 x6_2).f1).length c195_2) := (blk_cell BK196.out 2).trans rfl
                                              have hfz49_0 := blk_frozen BK196.out 0
                                              have hfz49_1 := blk_frozen BK196.out 1
                                              have hfz49_2 := blk_frozen BK196.out 2
                                              have p199 : 0 ≤ (x8_4 : Int) := of_decide_eq_true (by first | (with_reducible assumption) | assumption)
                                              have q199 : x8_4 < (((rd_T39 l0_1 x6_2).f1).length : Int) := of_decide_eq_true (by first | (with_reducible assumption) | assumption)
                                              obtain ⟨ad199, e199, hx199_0⟩ := Kd.at_int HR195_2.out x8_4 p199 q199
                                              cases e199
                                              replace hx199_0 := (HB.out.cell (World.block_lt_of_cell? w _ hx199_0)).trans hx199_0
                                              replace p199 := eq_true p199
                                              replace q199 := eq_true q199
                                              go_wp2_with (first | ((with_reducible refine gate_callee (f := 9) rfl ?_); refine goesL_ (some 85) rfl rfl Try.func9 (by kernel_rfl) rfl #[.int .i64 (rd ((rd_T39 l0_1 x6_2).f1) x8_4), .int .i64 (-1000), .int .i64 1000] rfl (by (try simp only [List.map_toArray, List.map_cons, List.map_nil]); first | done | rfl | (simp only [List.length_drop, List.length_take]; rfl)) ?_; (with_reducible refine (cobblebase_Within.calls (rd ((rd_T39 l0_1 x6_2).f1) x8_4) (-1000) 1000 true _ A46.out).mono ?_); rintro e w' ⟨rfl, ⟨nd, rfl⟩⟩; refine ⟨_, rfl, ?_⟩))
                                              go_roundg k4
                                              case measure => have := HK1.out; have := HK2.out; have := HJ23.out; have := HK4.out; omega
                                              case rel => exact ⟨(wrap64 (x8_4 + 1)), (by first | rfl | (simp; done) | (simp [*]; done)), H', ⟨by have := HK1.out; have := HK2.out; have := HJ23.out; have := HK4.out; omega⟩, ⟨by (with_reducible repeat (first | refine blk_drewN ?_ _ | refine blk_drew ?_ | refine blk_alloc ?_ _)); exact BK192.out⟩, ⟨by (with_reducible repeat (first | refine blk_drewN ?_ _ | refine blk_drew ?_ | refine blk_alloc ?_ _)); exact BK196.out⟩, ⟨by repeat (first | (with_reducible first | exact HB.out | apply below_alloc | apply pw_below_drewN | apply below_drew1 | refine below_set ?_ GE192.out | refine below_set ?_ GE196.out) | exact HB.out)⟩⟩
                                            · replace c47 := Bool.eq_false_iff.mpr c47
                                              subst c47
                                              have H1 : (some (x6_2, 2)) = some (r1, r2) := by rw [if_neg (show ¬ (false = true) by decide)] at H; exact H
                                              clear H
                                              have H := H1
                                              clear H1
                                              simp only [Option.some.injEq, Prod.mk.injEq] at H
                                              obtain ⟨rfl, rfl⟩ := H
                                              have hnb50 := NB196_192.out
                                              have hnc50 := NB192_196.out
                                              have hcz51_0 : wr.cell? ⟨gb196, 0, none⟩ = some (.int .i64 ((rd_T39 l0_1 x6_2).f0.f0)) := (blk_cell BK196.out 0).trans rfl
                                              have hcz51_1 : wr.cell? ⟨gb196, 1, none⟩ = some (.int .i64 ((rd_T39 l0_1 x6_2).f0.f1)) := (blk_cell BK196.out 1).trans rfl
                                              have hcz51_2 : wr.cell? ⟨gb196, 2, none⟩ = some (.slice A195_2 ((rd_T39 l0_1 x6_2).f1).length c195_2) := (blk_cell BK196.out 2).trans rfl
                                              have hfz51_0 := blk_frozen BK196.out 0
                                              have hfz51_1 := blk_frozen BK196.out 1
                                              have hfz51_2 := blk_frozen BK196.out 2
                                              have p199 : 0 ≤ (x8_4 : Int) := of_decide_eq_true (by first | (with_reducible assumption) | assumption)
                                              have q199 : x8_4 < (((rd_T39 l0_1 x6_2).f1).length : Int) := of_decide_eq_true (by first | (with_reducible assumption) | assumption)
                                              obtain ⟨ad199, e199, hx199_0⟩ := Kd.at_int HR195_2.out x8_4 p199 q199
                                              cases e199
                                              replace hx199_0 := (HB.out.cell (World.block_lt_of_cell? w _ hx199_0)).trans hx199_0
                                              replace p199 := eq_true p199
                                              replace q199 := eq_true q199
                                              go_wp2_with (first | ((with_reducible refine gate_callee (f := 9) rfl ?_); refine goesL_ (some 85) rfl rfl Try.func9 (by kernel_rfl) rfl #[.int .i64 (rd ((rd_T39 l0_1 x6_2).f1) x8_4), .int .i64 (-1000), .int .i64 1000] rfl (by (try simp only [List.map_toArray, List.map_cons, List.map_nil]); first | done | rfl | (simp only [List.length_drop, List.length_take]; rfl)) ?_; (with_reducible refine (cobblebase_Within.calls (rd ((rd_T39 l0_1 x6_2).f1) x8_4) (-1000) 1000 false _ A46.out).mono ?_); rintro e w' ⟨rfl, ⟨nd, rfl⟩⟩; refine ⟨_, rfl, ?_⟩))
                                              go_ret2
                                              exact ⟨by first | rfl | (simp [errW_none, errW_some] <;> rfl) | (simp [*, errW_none, errW_some] <;> rfl), by repeat (first | (with_reducible first | exact HB.out | apply below_alloc | apply pw_below_drewN | apply below_drew1 | refine below_set ?_ GE192.out | refine below_set ?_ GE196.out) | exact HB.out)⟩
                                          · rw [if_neg c45] at H
                                            exact absurd H (by simp)
                                        · rw [if_neg c44] at H
                                          exact absurd H (by simp)
                                      · rw [if_neg c43] at H
                                        have c43b0 : decide (x8_4 < (l0_0.length : Int)) = false := decide_eq_false c43
                                        clear c43
                                        have H' := Aside0.mk H
                                        clear H
                                        go_wp2
                                        go_roundg k4
                                        case measure => have := HK1.out; have := HK2.out; have := HJ23.out; have := HK4.out; omega
                                        case rel => exact ⟨(wrap64 (x6_2 + 1)), (by first | rfl | (simp; done) | (simp [*]; done)), H', ⟨by have := HK1.out; have := HK2.out; have := HJ23.out; have := HK4.out; omega⟩, ⟨by (with_reducible repeat (first | refine blk_drewN ?_ _ | refine blk_drew ?_ | refine blk_alloc ?_ _)); exact BK192.out⟩, ⟨by repeat (first | (with_reducible first | exact HB.out | apply below_alloc | apply pw_below_drewN | apply below_drew1 | refine below_set ?_ GE192.out | refine below_set ?_ GE196.out) | exact HB.out)⟩⟩
                                · rw [if_neg c40] at H
                                  have c40b0 : ((((rd_T39 l0_1 x6_2).f1).length : Int) == (l0_0.length : Int)) = false := beq_eq_false_iff_ne.mpr c40
                                  have c40b1 : ((((rd_T39 l0_1 x6_2).f1).length : Int) != (l0_0.length : Int)) = true := bne_iff_ne.mpr c40
                                  have c40b2 : (((rd_T39 l0_1 x6_2).f1).length == l0_0.length) = false := by first | simpa using c40 | (simp at c40 ⊢; omega)
                                  simp only [Option.some.injEq, Prod.mk.injEq] at H
                                  obtain ⟨rfl, rfl⟩ := H
                                  have hnb52 := NB196_192.out
                                  have hnc52 := NB192_196.out
                                  have hcz53_0 : wc.cell? ⟨gb196, 0, none⟩ = some (.int .i64 ((rd_T39 l0_1 x6_2).f0.f0)) := (blk_cell BK196.out 0).trans rfl
                                  have hcz53_1 : wc.cell? ⟨gb196, 1, none⟩ = some (.int .i64 ((rd_T39 l0_1 x6_2).f0.f1)) := (blk_cell BK196.out 1).trans rfl
                                  have hcz53_2 : wc.cell? ⟨gb196, 2, none⟩ = some (.slice A195_2 ((rd_T39 l0_1 x6_2).f1).length c195_2) := (blk_cell BK196.out 2).trans rfl
                                  have hfz53_0 := blk_frozen BK196.out 0
                                  have hfz53_1 := blk_frozen BK196.out 1
                                  have hfz53_2 := blk_frozen BK196.out 2
                                  go_wp2
                                  go_ret2
                                  exact ⟨by first | rfl | (simp [errW_none, errW_some] <;> rfl) | (simp [*, errW_none, errW_some] <;> rfl), by repeat (first | (with_reducible first | exact HB.out | apply below_alloc | apply pw_below_drewN | apply below_drew1 | refine below_set ?_ GE192.out | refine below_set ?_ GE196.out) | exact HB.out)⟩
                      · rw [if_neg c23] at H
                        exact absurd H (by simp)
                    · rw [if_neg c22] at H
                      have c22b0 : decide (x6_2 < (l0_1.length : Int)) = false := decide_eq_false c22
                      clear c22
                      simp only [Option.some.injEq, Prod.mk.injEq] at H
                      obtain ⟨rfl, rfl⟩ := H
                      have hcz54_0 : wr.cell? ⟨gb192, 0, none⟩ = some (.slice A0_0 l0_0.length c0_0) := (blk_cell BK192.out 0).trans rfl
                      have hcz54_1 : wr.cell? ⟨gb192, 1, none⟩ = some (.slice A0_1 l0_1.length c0_1) := (blk_cell BK192.out 1).trans rfl
                      have hfz54_0 := blk_frozen BK192.out 0
                      have hfz54_1 := blk_frozen BK192.out 1
                      go_wp2
                      go_ret2
                      exact ⟨by first | rfl | (simp [errW_none, errW_some] <;> rfl) | (simp [*, errW_none, errW_some] <;> rfl), by repeat (first | (with_reducible first | exact HB.out | apply below_alloc | apply pw_below_drewN | apply below_drew1 | refine below_set ?_ GE192.out) | exact HB.out)⟩


/-! ### cobbleref07_RulesErr: function 8 -/
def cobbleref07_RulesErr.f (k : Nat) (l0_0 : List Int) (l0_1 : List (S39)) : Option (Int) := (cobbleref07_CheckRules.f k l0_0 l0_1).bind fun bt202 => (some bt202.2)
theorem cobbleref07_RulesErr.mono : ∀ a0 a1 k, LeO (cobbleref07_RulesErr.f k a0 a1) (cobbleref07_RulesErr.f (k + 1) a0 a1) := by
  intro a0 a1 k
  unfold cobbleref07_RulesErr.f
  repeat' first
      | (with_reducible exact cobbleref07_CheckRules.mono _ _ _)
      | (with_reducible exact LeO.refl _)
      | (with_reducible exact LeO.none _)
      | (with_reducible refine LeO.ite ?_ ?_)
      | (with_reducible refine LeO.bind ?_ (fun _ => ?_))
      | exact cobbleref07_CheckRules.mono _ _ _
      | exact LeO.none _
      | refine LeO.ite ?_ ?_
      | refine LeO.bind ?_ (fun _ => ?_)
set_option maxHeartbeats 8000000 in
set_option maxRecDepth 100000 in
theorem cobbleref07_RulesErr.calls (k : Nat) (A0_0 : Option Addr) (c0_0 : Nat) (l0_0 : List Int) (A0_1 : Option Addr) (c0_1 : Nat) (l0_1 : List (S39)) (r : Int) (w : World) (hr0_0 : Kd.C (Kd.int .i64) w A0_0 l0_0.length l0_0) (hc0_0 : l0_0.length ≤ c0_0) (hr0_1 : Kd.C k39 w A0_1 l0_1.length l0_1) (hc0_1 : l0_1.length ≤ c0_1) (h : cobbleref07_RulesErr.f k l0_0 l0_1 = some r) :
    Calls Try.prog 8 #[.agg #[.slice A0_0 l0_0.length c0_0, .slice A0_1 l0_1.length c0_1]] w fun e w' => e = .returned (.int .i64 r) ∧ Below w.heap.size w w' := by
  have hu25 := Try.underlying25
  have HR0_0 := Aside0.mk hr0_0
  have HC0_0 := Aside0.mk hc0_0
  clear hr0_0 hc0_0
  have HR0_1 := Aside0.mk hr0_1
  have HC0_1 := Aside0.mk hc0_1
  clear hr0_1 hc0_1
  have HB := Aside0.mk (Below.refl w.heap.size w)
  have H : ((cobbleref07_CheckRules.f k l0_0 l0_1).bind fun bt202 => (some bt202.2)) = some r := h
  clear h
  replace H := Option.bind_eq_some_iff.mp H
  obtain ⟨⟨t202, t203⟩, A20, H⟩ := H
  replace H : (some t203) = some r := H
  have A2 := Aside0.mk A20
  clear A20
  obtain rfl := Option.some.inj H
  go_enter Try.func8, Try.ntmps8
  go_wp2_with (first | ((with_reducible refine gate_dst (N := 1) rfl ?_); refine box_event ?hg (N := 1) ?hd (cs := #[.slice A0_0 l0_0.length c0_0, .slice A0_1 l0_1.length c0_1]) (t := 25) ?hr ?_; (case hd => rfl); (case hg => rfl); (case hr => first | (go_simp; done) | (go_simp; rfl)); intro gb201 hg w3 hbox hb; have n0_ := Aside0.mk (below_step (by repeat (first | (with_reducible first | exact HB.out | apply below_alloc | apply pw_below_drewN | apply below_drew1) | exact HB.out)) hb); have n1_ := Aside0.mk (hbox); have n2_ := Aside0.mk ((by rw [hg]; exact (below_size (by repeat (first | (with_reducible first | exact HB.out | apply below_alloc | apply pw_below_drewN | apply below_drew1) | exact HB.out))) : w.heap.size ≤ gb201)); have n3_ := Aside0.mk ((by rw [hg]; exact (below_size (by repeat (first | (with_reducible first | exact HB.out | apply below_alloc | apply pw_below_drewN | apply below_drew1) | exact HB.out))) : w.heap.size ≤ gb201)); clear HB; have HB := n0_; have BK201 := n1_; have GW201 := n2_; have GE201 := n3_; clear n0_ n1_ n2_ n3_; clear hb hbox hg; have hcz4_0 : w3.cell? ⟨gb201, 0, none⟩ = some (.slice A0_0 l0_0.length c0_0) := (blk_cell BK201.out 0).trans rfl; have hcz4_1 : w3.cell? ⟨gb201, 1, none⟩ = some (.slice A0_1 l0_1.length c0_1) := (blk_cell BK201.out 1).trans rfl; have hfz4_0 := blk_frozen BK201.out 0; have hfz4_1 := blk_frozen BK201.out 1) | ((with_reducible refine gate_callee (f := 32) rfl ?_); refine goesL_ (some 7) rfl rfl Try.func32 (by kernel_rfl) rfl #[.agg #[.slice A0_0 l0_0.length c0_0, .slice A0_1 l0_1.length c0_1]] rfl (by (try simp only [List.map_toArray, List.map_cons, List.map_nil]); first | done | rfl | (simp only [List.length_drop, List.length_take]; rfl)) ?_; (with_reducible refine (cobbleref07_CheckRules.calls k _ _ l0_0 _ _ l0_1 t202 t203 _ ?side1 ?side2 ?side3 ?side4 A2.out).mono ?_); (case side1 => repeat (first | exact (Kd.C_below HR0_0.out HB.out) | (with_reducible refine Kd.C_alloc ?_ _) | (with_reducible refine Kd.C_drewN ?_ _) | (with_reducible refine Kd.C_drew ?_))); (case side2 => exact HC0_0.out); (case side3 => repeat (first | exact (Kd.C_below HR0_1.out HB.out) | (with_reducible refine Kd.C_alloc ?_ _) | (with_reducible refine Kd.C_drewN ?_ _) | (with_reducible refine Kd.C_drew ?_))); (case side4 => exact HC0_1.out); rintro e w5 ⟨rfl, hb⟩; refine ⟨_, rfl, ?_⟩; have n0_ := Aside0.mk (blk_below (g := gb201) (o := .cells #[.slice A0_0 l0_0.length c0_0, .slice A0_1 l0_1.length c0_1] 25 (0, 0)) (by (with_reducible repeat (first | refine blk_drewN ?_ _ | refine blk_drew ?_ | refine blk_alloc ?_ _)); exact BK201.out) hb); have n1_ := Aside0.mk (below_step (by repeat (first | (with_reducible first | exact HB.out | apply below_alloc | apply pw_below_drewN | apply below_drew1 | refine below_set ?_ GE201.out) | exact HB.out)) hb); clear BK201; clear HB; have BK201 := n0_; have HB := n1_; clear n0_ n1_; (try clear hb); (try clear hb2); (try clear hk); (try clear hi)))
  go_ret
  exact ⟨by first | rfl | (simp [errW_none, errW_some] <;> rfl) | (simp [*, errW_none, errW_some] <;> rfl), by repeat (first | (with_reducible first | exact HB.out | apply below_alloc | apply pw_below_drewN | apply below_drew1 | refine below_set ?_ GE201.out) | exact HB.out)⟩


/-! ### cobblebase_CopyInts: function 17 -/
def cobblebase_CopyInts.f (l0 : List Int) : Option (List Int) := (some (([] : List Int) : List Int)).bind fun y204 => (if y204.length + l0.length < 17592186044416 then (some (y204 ++ l0)) else (none))
set_option maxHeartbeats 8000000 in
set_option maxRecDepth 100000 in
theorem cobblebase_CopyInts.calls (A0 : Option Addr) (c0 : Nat) (l0 : List Int) (r : List Int) (w : World) (hr0 : Kd.C (Kd.int .i64) w A0 l0.length l0) (hc0 : l0.length ≤ c0) (h : cobblebase_CopyInts.f l0 = some r) :
    Calls Try.prog 17 #[.slice A0 l0.length c0] w fun e w' => ∃ v0_ : Value, e = .returned (v0_) ∧ Kd.R (Kd.int .i64) 3 w' w.heap.size (fun _ => True) v0_ r ∧ Below w.heap.size w w' := by
  have HR0 := Aside0.mk hr0
  have HC0 := Aside0.mk hc0
  clear hr0 hc0
  have HB := Aside0.mk (Below.refl w.heap.size w)
  have H : ((some (([] : List Int) : List Int)).bind fun y204 => (if y204.length + l0.length < 17592186044416 then (some (y204 ++ l0)) else (none))) = some r := h
  clear h
  obtain ⟨y204, hy204⟩ : ∃ y_ : List Int, y_ = (([] : List Int)) := ⟨_, rfl⟩
  replace H : (if y204.length + l0.length < 17592186044416 then (some (y204 ++ l0)) else (none)) = some r := by first | (rw [hy204]; with_reducible exact H) | (have H2_ := (Option.bind_some _ _).symm.trans H; rw [hy204]; with_reducible exact H2_) | (have H2_ := (Option.bind_some _ _).symm.trans H; with_reducible exact H2_) | with_reducible exact H | (rw [hy204]; exact H) | exact H
  have Ny204 := Aside0.mk hy204
  clear hy204
  by_cases c2 : y204.length + l0.length < 17592186044416
  · rw [if_pos c2] at H
    have LMc2 := Aside0.mk c2
    clear c2
    obtain ⟨y207, hy207⟩ : ∃ y_ : List Int, y_ = (y204 ++ l0) := ⟨_, rfl⟩
    replace H : (some y207) = some r := by first | (rw [hy207]; with_reducible exact H) | (have H2_ := (Option.bind_some _ _).symm.trans H; rw [hy207]; with_reducible exact H2_) | (have H2_ := (Option.bind_some _ _).symm.trans H; with_reducible exact H2_) | with_reducible exact H | (rw [hy207]; exact H) | exact H
    have Ny207 := Aside0.mk hy207
    clear hy207
    obtain rfl := Option.some.inj H
    go_enter Try.func17, Try.ntmps17
    go_wp2_with (first | ((with_reducible refine gate_dst (N := 3) rfl ?_); refine Kd.R_lit (Kd.int .i64) _ 3 ?hg (N := 3) ?hd (xs := ([] : List Int)) (inner := []) (ok := fun _ => True) (okp := fun _ => True) ?hr ?hp (fun _ hk => hk) trivial (Below.refl _ _) (Nat.le_refl _) (by simp) ?_; (case hd => rfl); (case hg => rfl); (case hr => first | (go_simp; done) | (go_simp; rfl)); (case hp => exact (Reps.none _ _)); intro v205 w3 ho4 hb hg_ hnew_; clear hg_ hnew_; (first | rw [← Ny204.out] at ho4 | (simp only [Int.reduceToNat] at ho4; rw [← Ny204.out] at ho4)); have n0_ := Aside0.mk (Kd.R_lower ho4 (below_size (by repeat (first | (with_reducible first | exact HB.out | apply below_alloc | apply pw_below_drewN | apply below_drew1) | exact HB.out)))); have n1_ := Aside0.mk (below_step (by repeat (first | (with_reducible first | exact HB.out | apply below_alloc | apply pw_below_drewN | apply below_drew1) | exact HB.out)) hb); clear HB; have HO206 := n0_; have HB := n1_; clear n0_ n1_; clear hb ho4) | ((with_reducible refine gate_builtin (b := .append) (xs := #[.tmp 3, .tmp 4]) rfl ?_); at_builtin; refine Kd.R_append_rows (Kd.int .i64) (w0 := w) w.heap.size rfl (.tmp 3) (.tmp 4) 22 3 (.int .i64 0) 8 rfl Try.underlying22 info3 rfl (by decide) (by omega) v205 y204 l0 _ _ _ (fun _ => True) (fun _ => False) rfl rfl ?aO ?aR (fun _ _ h => h) (fun _ h => h.elim) ?aF ?aB ?aS ?aL ?_; (case aR => repeat (first | exact (Kd.C_below HR0.out HB.out) | (with_reducible refine Kd.C_alloc ?_ _) | (with_reducible refine Kd.C_drewN ?_ _) | (with_reducible refine Kd.C_drew ?_))); (case aB => exact (by repeat (first | (with_reducible first | exact HB.out | apply below_alloc | apply pw_below_drewN | apply below_drew1) | exact HB.out))); (case aF => exact (fun _ _ => trivial)); (case aO => exact (by (with_reducible repeat (first | apply Kd.R_alloc | apply Kd.R_drewN | apply Kd.R_drew)); exact HO206.out)); (case aS => exact (below_size (by repeat (first | (with_reducible first | exact HB.out | apply below_alloc | apply pw_below_drewN | apply below_drew1) | exact HB.out)))); (case aL => have := LMc2.out; omega); intro v208 w5 ho hb hg hat; rw [← Ny207.out] at ho; have n0_ := Aside0.mk (hb); have n1_ := Aside0.mk (ho); clear HB; clear HO206; have HB := n0_; have HO209 := n1_; clear n0_ n1_; clear ho hb hg hat))
    go_ret
    exact ⟨_, by first | rfl | (simp [errW_none, errW_some] <;> rfl) | (simp [*, errW_none, errW_some] <;> rfl), by (with_reducible repeat (first | apply Kd.R_alloc | apply Kd.R_drewN | apply Kd.R_drew)); exact HO209.out, by repeat (first | (with_reducible first | exact HB.out | apply below_alloc | apply pw_below_drewN | apply below_drew1) | exact HB.out)⟩
  · rw [if_neg c2] at H
    exact absurd H (by simp)


/-! ### cobbleref07_CopyRules: function 11 -/
def cobbleref07_CopyRules.l0 : Nat → Int → List Int → List (S39) → List Int → List (S39) → Option (List Int × (List (S39)))
  | 0, _, _, _, _, _ => none
  | k + 1, x4, x211000, x211001, x216000, x216001 => if x4 < (x211001.length : Int) then (if 0 ≤ x4 then ((cobblebase_CopyInts.f ((rd_T39 x211001 x4).f1)).bind fun t218 => (if x216001.length < 3518437208883 then (cobbleref07_CopyRules.l0 k (wrap64 (x4 + 1)) x211000 x211001 x216000 (x216001 ++ [(⟨(⟨(rd_T39 x211001 x4).f0.f0, (rd_T39 x211001 x4).f0.f1⟩ : S37), t218⟩ : S39)])) else (none))) else (none)) else (some (x216000, x216001))
def cobbleref07_CopyRules.f (k : Nat) (l0_0 : List Int) (l0_1 : List (S39)) : Option (List Int × (List (S39))) := (cobblebase_CopyInts.f l0_0).bind fun t212 => (cobbleref07_CopyRules.l0 k 0 l0_0 l0_1 t212 ([] : List (S39)))
theorem cobbleref07_CopyRules.mono_l : ∀ k, (∀ y0 y1 y2 y3 y4, LeO (cobbleref07_CopyRules.l0 k y0 y1 y2 y3 y4) (cobbleref07_CopyRules.l0 (k + 1) y0 y1 y2 y3 y4))
  | 0 => fun _ _ _ _ _ r h => by simp [cobbleref07_CopyRules.l0] at h
  | k + 1 => by
    have ih0 := cobbleref07_CopyRules.mono_l k
    · intro y0 y1 y2 y3 y4
      unfold cobbleref07_CopyRules.l0
      repeat' first
      | (with_reducible exact ih0 _ _ _ _ _)
      | (with_reducible exact LeO.refl _)
      | (with_reducible exact LeO.none _)
      | (with_reducible refine LeO.ite ?_ ?_)
      | (with_reducible refine LeO.bind ?_ (fun _ => ?_))
      | exact ih0 _ _ _ _ _
      | exact LeO.none _
      | refine LeO.ite ?_ ?_
      | refine LeO.bind ?_ (fun _ => ?_)
theorem cobbleref07_CopyRules.mono : ∀ a0 a1 k, LeO (cobbleref07_CopyRules.f k a0 a1) (cobbleref07_CopyRules.f (k + 1) a0 a1) := by
  intro a0 a1 k
  have ih0 := cobbleref07_CopyRules.mono_l k
  unfold cobbleref07_CopyRules.f
  repeat' first
      | (with_reducible exact ih0 _ _ _ _ _)
      | (with_reducible exact LeO.refl _)
      | (with_reducible exact LeO.none _)
      | (with_reducible refine LeO.ite ?_ ?_)
      | (with_reducible refine LeO.bind ?_ (fun _ => ?_))
      | exact ih0 _ _ _ _ _
      | exact LeO.none _
      | refine LeO.ite ?_ ?_
      | refine LeO.bind ?_ (fun _ => ?_)
set_option maxHeartbeats 8000000 in
set_option maxRecDepth 100000 in
theorem cobbleref07_CopyRules.calls (k : Nat) (A0_0 : Option Addr) (c0_0 : Nat) (l0_0 : List Int) (A0_1 : Option Addr) (c0_1 : Nat) (l0_1 : List (S39)) (r1 : List Int) (r2 : List (S39)) (w : World) (hr0_0 : Kd.C (Kd.int .i64) w A0_0 l0_0.length l0_0) (hc0_0 : l0_0.length ≤ c0_0) (hr0_1 : Kd.C k39 w A0_1 l0_1.length l0_1) (hc0_1 : l0_1.length ≤ c0_1) (h : cobbleref07_CopyRules.f k l0_0 l0_1 = some (r1, r2)) :
    Calls Try.prog 11 #[.agg #[.slice A0_0 l0_0.length c0_0, .slice A0_1 l0_1.length c0_1]] w fun e w' => ∃ v0_ v1_ : Value, e = .returned (.agg #[v0_, v1_]) ∧ Kd.R (Kd.int .i64) 3 w' w.heap.size (fun _ => True) v0_ r1 ∧ Kd.S k39 39 w' w.heap.size (fun k_ => some k_ ≠ (v0_ : Value).ownBlock) v1_ r2 ∧ Below w.heap.size w w' := by
  have hu25 := Try.underlying25
  have hu39 := Try.underlying39
  have HR0_0 := Aside0.mk hr0_0
  have HC0_0 := Aside0.mk hc0_0
  clear hr0_0 hc0_0
  have HR0_1 := Aside0.mk hr0_1
  have HC0_1 := Aside0.mk hc0_1
  clear hr0_1 hc0_1
  have HB := Aside0.mk (Below.refl w.heap.size w)
  have H : ((cobblebase_CopyInts.f l0_0).bind fun t212 => (cobbleref07_CopyRules.l0 k 0 l0_0 l0_1 t212 ([] : List (S39)))) = some (r1, r2) := h
  clear h
  replace H := Option.bind_eq_some_iff.mp H
  obtain ⟨t212, A20, H⟩ := H
  replace H : (cobbleref07_CopyRules.l0 k 0 l0_0 l0_1 t212 ([] : List (S39))) = some (r1, r2) := H
  have A2 := Aside0.mk A20
  clear A20
  have H' := Aside0.mk H
  clear H
  go_enter Try.func11, Try.ntmps11
  go_wp2_with (first | ((with_reducible refine gate_dst (N := 1) rfl ?_); refine box_event ?hg (N := 1) ?hd (cs := #[.slice A0_0 l0_0.length c0_0, .slice A0_1 l0_1.length c0_1]) (t := 25) ?hr ?_; (case hd => rfl); (case hg => rfl); (case hr => first | (go_simp; done) | (go_simp; rfl)); intro gb210 hg w3 hbox hb; have n0_ := Aside0.mk (below_step (by repeat (first | (with_reducible first | exact HB.out | apply below_alloc | apply pw_below_drewN | apply below_drew1) | exact HB.out)) hb); have n1_ := Aside0.mk (hbox); have n2_ := Aside0.mk ((by rw [hg]; exact (below_size (by repeat (first | (with_reducible first | exact HB.out | apply below_alloc | apply pw_below_drewN | apply below_drew1) | exact HB.out))) : w.heap.size ≤ gb210)); have n3_ := Aside0.mk ((by rw [hg]; exact (below_size (by repeat (first | (with_reducible first | exact HB.out | apply below_alloc | apply pw_below_drewN | apply below_drew1) | exact HB.out))) : w.heap.size ≤ gb210)); clear HB; have HB := n0_; have BK210 := n1_; have GW210 := n2_; have GE210 := n3_; clear n0_ n1_ n2_ n3_; clear hb hbox hg) | ((with_reducible refine gate_dst (N := 2) rfl ?_); refine box_event ?hg (N := 2) ?hd (cs := #[.slice none 0 0, .slice none 0 0]) (t := 25) ?hr ?_; (case hd => rfl); (case hg => rfl); (case hr => first | (go_simp; done) | (go_simp; rfl)); intro gb211 hg w4 hbox hb; have n0_ := Aside0.mk (blk_below (g := gb210) (o := .cells #[.slice A0_0 l0_0.length c0_0, .slice A0_1 l0_1.length c0_1] 25 (0, 0)) (by (with_reducible repeat (first | refine blk_drewN ?_ _ | refine blk_drew ?_ | refine blk_alloc ?_ _)); exact BK210.out) hb); have n1_ := Aside0.mk (below_step (by repeat (first | (with_reducible first | exact HB.out | apply below_alloc | apply pw_below_drewN | apply below_drew1 | refine below_set ?_ GE210.out) | exact HB.out)) hb); have n2_ := Aside0.mk (hbox); have n3_ := Aside0.mk ((by rw [hg]; exact (below_size (by repeat (first | (with_reducible first | exact HB.out | apply below_alloc | apply pw_below_drewN | apply below_drew1 | refine below_set ?_ GE210.out) | exact HB.out))) : w.heap.size ≤ gb211)); have n4_ := Aside0.mk ((by rw [hg]; exact (below_size (by repeat (first | (with_reducible first | exact HB.out | apply below_alloc | apply pw_below_drewN | apply below_drew1 | refine below_set ?_ GE210.out) | exact HB.out))) : w.heap.size ≤ gb211)); have n5_ := Aside0.mk ((by rw [hg]; exact Nat.ne_of_lt (blk_lt (g := gb210) (o := .cells #[.slice A0_0 l0_0.length c0_0, .slice A0_1 l0_1.length c0_1] 25 (0, 0)) (by (with_reducible repeat (first | refine blk_drewN ?_ _ | refine blk_drew ?_ | refine blk_alloc ?_ _)); exact BK210.out)) : gb210 ≠ gb211)); have n6_ := Aside0.mk ((by rw [hg]; exact Nat.ne_of_gt (blk_lt (g := gb210) (o := .cells #[.slice A0_0 l0_0.length c0_0, .slice A0_1 l0_1.length c0_1] 25 (0, 0)) (by (with_reducible repeat (first | refine blk_drewN ?_ _ | refine blk_drew ?_ | refine blk_alloc ?_ _)); exact BK210.out)) : gb211 ≠ gb210)); clear BK210; clear HB; have BK210 := n0_; have HB := n1_; have BK211 := n2_; have GW211 := n3_; have GE211 := n4_; have NB210_211 := n5_; have NB211_210 := n6_; clear n0_ n1_ n2_ n3_ n4_ n5_ n6_; clear hb hbox hg; have hnb5 := NB210_211.out; have hnc5 := NB211_210.out; have hcz6_0 : w4.cell? ⟨gb210, 0, none⟩ = some (.slice A0_0 l0_0.length c0_0) := (blk_cell BK210.out 0).trans rfl; have hcz6_1 : w4.cell? ⟨gb210, 1, none⟩ = some (.slice A0_1 l0_1.length c0_1) := (blk_cell BK210.out 1).trans rfl; have hfz6_0 := blk_frozen BK210.out 0; have hfz6_1 := blk_frozen BK210.out 1) | ((with_reducible refine gate_callee (f := 17) rfl ?_); refine goesL_ (some 8) rfl rfl Try.func17 (by kernel_rfl) rfl #[.slice A0_0 l0_0.length c0_0] rfl (by (try simp only [List.map_toArray, List.map_cons, List.map_nil]); first | done | rfl | (simp only [List.length_drop, List.length_take]; rfl)) ?_; (with_reducible refine (cobblebase_CopyInts.calls _ _ l0_0 t212 _ ?side1 ?side2 A2.out).mono ?_); (case side1 => repeat (first | exact (Kd.C_below HR0_0.out HB.out) | (with_reducible refine Kd.C_alloc ?_ _) | (with_reducible refine Kd.C_drewN ?_ _) | (with_reducible refine Kd.C_drew ?_))); (case side2 => exact HC0_0.out); rintro e w7 ⟨v213, rfl, ho0, hb⟩; refine ⟨_, rfl, ?_⟩; have n0_ := Aside0.mk (Kd.R_lower ho0 (below_size (by repeat (first | (with_reducible first | exact HB.out | apply below_alloc | apply pw_below_drewN | apply below_drew1 | refine below_set ?_ GE210.out | refine below_set ?_ GE211.out) | exact HB.out)))); have n1_ := Aside0.mk (blk_below (g := gb210) (o := .cells #[.slice A0_0 l0_0.length c0_0, .slice A0_1 l0_1.length c0_1] 25 (0, 0)) (by (with_reducible repeat (first | refine blk_drewN ?_ _ | refine blk_drew ?_ | refine blk_alloc ?_ _)); exact BK210.out) hb); have n2_ := Aside0.mk (blk_below (g := gb211) (o := .cells #[.slice none 0 0, .slice none 0 0] 25 (0, 0)) (by (with_reducible repeat (first | refine blk_drewN ?_ _ | refine blk_drew ?_ | refine blk_alloc ?_ _)); exact BK211.out) hb); have n3_ := Aside0.mk (below_step (by repeat (first | (with_reducible first | exact HB.out | apply below_alloc | apply pw_below_drewN | apply below_drew1 | refine below_set ?_ GE210.out | refine below_set ?_ GE211.out) | exact HB.out)) hb); clear BK210; clear BK211; clear HB; have HO214 := n0_; have BK210 := n1_; have BK211 := n2_; have HB := n3_; clear n0_ n1_ n2_ n3_; (try clear hb); (try clear hb2); (try clear hk); (try clear hi); (try clear ho0); obtain ⟨Ao8, co8, eo8⟩ := Kd.R_slice HO214.out; subst eo8) | ((with_reducible refine gate_dst (N := 3) rfl ?_); refine box_event ?hg (N := 3) ?hd (cs := #[.slice none 0 0, .slice none 0 0]) (t := 25) ?hr ?_; (case hd => rfl); (case hg => rfl); (case hr => first | (go_simp; done) | (go_simp; rfl)); intro gb215 hg w9 hbox hb; have n0_ := Aside0.mk (Kd.R_below (by (with_reducible repeat (first | apply Kd.R_alloc | apply Kd.R_drewN | apply Kd.R_drew)); exact HO214.out) hb); have n1_ := Aside0.mk (blk_below (g := gb210) (o := .cells #[.slice A0_0 l0_0.length c0_0, .slice A0_1 l0_1.length c0_1] 25 (0, 0)) (by (with_reducible repeat (first | refine blk_drewN ?_ _ | refine blk_drew ?_ | refine blk_alloc ?_ _)); exact BK210.out) hb); have n2_ := Aside0.mk (blk_below (g := gb211) (o := .cells #[.slice none 0 0, .slice none 0 0] 25 (0, 0)) (by (with_reducible repeat (first | refine blk_drewN ?_ _ | refine blk_drew ?_ | refine blk_alloc ?_ _)); exact BK211.out) hb); have n3_ := Aside0.mk (below_step (by repeat (first | (with_reducible first | exact HB.out | apply below_alloc | apply pw_below_drewN | apply below_drew1 | refine below_set ?_ GE210.out | refine below_set ?_ GE211.out) | exact HB.out)) hb); have n4_ := Aside0.mk (hbox); have n5_ := Aside0.mk ((by rw [hg]; exact (below_size (by repeat (first | (with_reducible first | exact HB.out | apply below_alloc | apply pw_below_drewN | apply below_drew1 | refine below_set ?_ GE210.out | refine below_set ?_ GE211.out) | exact HB.out))) : w.heap.size ≤ gb215)); have n6_ := Aside0.mk ((by rw [hg]; exact (below_size (by repeat (first | (with_reducible first | exact HB.out | apply below_alloc | apply pw_below_drewN | apply below_drew1 | refine below_set ?_ GE210.out | refine below_set ?_ GE211.out) | exact HB.out))) : w.heap.size ≤ gb215)); have n7_ := Aside0.mk ((by rw [hg]; exact Nat.ne_of_lt (blk_lt (g := gb210) (o := .cells #[.slice A0_0 l0_0.length c0_0, .slice A0_1 l0_1.length c0_1] 25 (0, 0)) (by (with_reducible repeat (first | refine blk_drewN ?_ _ | refine blk_drew ?_ | refine blk_alloc ?_ _)); exact BK210.out)) : gb210 ≠ gb215)); have n8_ := Aside0.mk ((by rw [hg]; exact Nat.ne_of_gt (blk_lt (g := gb210) (o := .cells #[.slice A0_0 l0_0.length c0_0, .slice A0_1 l0_1.length c0_1] 25 (0, 0)) (by (with_reducible repeat (first | refine blk_drewN ?_ _ | refine blk_drew ?_ | refine blk_alloc ?_ _)); exact BK210.out)) : gb215 ≠ gb210)); have n9_ := Aside0.mk ((by rw [hg]; exact Nat.ne_of_lt (blk_lt (g := gb211) (o := .cells #[.slice none 0 0, .slice none 0 0] 25 (0, 0)) (by (with_reducible repeat (first | refine blk_drewN ?_ _ | refine blk_drew ?_ | refine blk_alloc ?_ _)); exact BK211.out)) : gb211 ≠ gb215)); have n10_ := Aside0.mk ((by rw [hg]; exact Nat.ne_of_gt (blk_lt (g := gb211) (o := .cells #[.slice none 0 0, .slice none 0 0] 25 (0, 0)) (by (with_reducible repeat (first | refine blk_drewN ?_ _ | refine blk_drew ?_ | refine blk_alloc ?_ _)); exact BK211.out)) : gb215 ≠ gb211)); clear HO214; clear BK210; clear BK211; clear HB; have HO214 := n0_; have BK210 := n1_; have BK211 := n2_; have HB := n3_; have BK215 := n4_; have GW215 := n5_; have GE215 := n6_; have NB210_215 := n7_; have NB215_210 := n8_; have NB211_215 := n9_; have NB215_211 := n10_; clear n0_ n1_ n2_ n3_ n4_ n5_ n6_ n7_ n8_ n9_ n10_; clear hb hbox hg; have hnb10 := NB215_210.out; have hnc10 := NB210_215.out; have hnb11 := NB215_211.out; have hnc11 := NB211_215.out; have hcz12_0 : w9.cell? ⟨gb215, 0, none⟩ = some (.slice none 0 0) := (blk_cell BK215.out 0).trans rfl; have hcz12_1 : w9.cell? ⟨gb215, 1, none⟩ = some (.slice none 0 0) := (blk_cell BK215.out 1).trans rfl; have hfz12_0 := blk_frozen BK215.out 0; have hfz12_1 := blk_frozen BK215.out 1))
  go_loopg [4] k (fun kq v4 w' => ∃ (x4_1 : Int) (x216001_1 : List (S39)) (u216001 : Value), v4 = .int .i64 x4_1 ∧ Aside0 (cobbleref07_CopyRules.l0 kq x4_1 l0_0 l0_1 t212 x216001_1 = some (r1, r2)) ∧ Aside0 (kq ≤ k) ∧ Aside0 (Kd.R (Kd.int .i64) 3 w' w.heap.size (fun _ => True) (.slice Ao8 t212.length co8) t212) ∧ Aside0 (Kd.S k39 39 w' w.heap.size (fun k_ => some k_ ≠ ((.slice Ao8 t212.length co8) : Value).ownBlock) u216001 x216001_1) ∧ Aside0 (w'.heap[gb210]? = some (.cells #[(.slice A0_0 l0_0.length c0_0), (.slice A0_1 l0_1.length c0_1)] 25 (0, 0))) ∧ Aside0 (w'.heap[gb211]? = some (.cells #[(.slice none 0 0), (.slice none 0 0)] 25 (0, 0))) ∧ Aside0 (w'.heap[gb215]? = some (.cells #[(.slice Ao8 t212.length co8), u216001] 25 (0, 0))) ∧ Aside0 (Below w.heap.size w w'))
  case atStart => exact ⟨(0), (([] : List (S39))), (.slice none 0 0), (by first | rfl | (simp; done) | (simp [*]; done)), H', ⟨Nat.le_refl _⟩, ⟨by (with_reducible repeat (first | apply Kd.R_alloc | apply Kd.R_drewN | apply Kd.R_drew)); exact Kd.R_mono (Kd.R_far (p := ⟨gb215, 1, none⟩) (Kd.R_far (p := ⟨gb215, 0, none⟩) (Kd.R_types HO214.out BK215.out (by decide)) (fun _ hk => hk.2) (.slice Ao8 t212.length co8)) (fun _ hk => hk.2) (.slice none 0 0)) (fun _ hk => trivial)⟩, ⟨by first | exact Kd.S_nil _ _ _ _ _ | exact Kd.N_nil _ _ _ _ _ | exact Kd.V_nil _ _ _ _ _ | exact Kd.Q_nil _ _ _ _ _ | exact Kd.R_nil _ _ _ _ _⟩, ⟨by (with_reducible repeat (first | refine blk_drewN ?_ _ | refine blk_drew ?_ | refine blk_alloc ?_ _)); refine blk_far ?_ NB210_215.out _; (with_reducible repeat (first | refine blk_drewN ?_ _ | refine blk_drew ?_ | refine blk_alloc ?_ _)); refine blk_far ?_ NB210_215.out _; (with_reducible repeat (first | refine blk_drewN ?_ _ | refine blk_drew ?_ | refine blk_alloc ?_ _)); exact BK210.out⟩, ⟨by (with_reducible repeat (first | refine blk_drewN ?_ _ | refine blk_drew ?_ | refine blk_alloc ?_ _)); refine blk_far ?_ NB211_215.out _; (with_reducible repeat (first | refine blk_drewN ?_ _ | refine blk_drew ?_ | refine blk_alloc ?_ _)); refine blk_far ?_ NB211_215.out _; (with_reducible repeat (first | refine blk_drewN ?_ _ | refine blk_drew ?_ | refine blk_alloc ?_ _)); exact BK211.out⟩, ⟨by (with_reducible repeat (first | refine blk_drewN ?_ _ | refine blk_drew ?_ | refine blk_alloc ?_ _)); refine blk_put (cs := #[.slice Ao8 t212.length co8, .slice none 0 0]) ?_ 1 _ rfl; (with_reducible repeat (first | refine blk_drewN ?_ _ | refine blk_drew ?_ | refine blk_alloc ?_ _)); refine blk_put (cs := #[.slice none 0 0, .slice none 0 0]) ?_ 0 _ rfl; (with_reducible repeat (first | refine blk_drewN ?_ _ | refine blk_drew ?_ | refine blk_alloc ?_ _)); exact BK215.out⟩, ⟨by repeat (first | (with_reducible first | exact HB.out | apply below_alloc | apply pw_below_drewN | apply below_drew1 | refine below_set ?_ GE210.out | refine below_set ?_ GE211.out | refine below_set ?_ GE215.out) | exact HB.out)⟩⟩
  case round =>
    clear H'
    try clear c1
    try clear p2
    try clear c5
    try clear c10
    try clear c11
    try clear hcz12_0
    try clear hcz12_1
    try clear hcz6_0
    try clear hcz6_1
    try clear hfz12_0
    try clear hfz12_1
    try clear hfz6_0
    try clear hfz6_1
    obtain ⟨x4_1, x216001_1, u216001, rfl, HA, HK1, HO_216000, HO_216001, BK210, BK211, BK215, HB⟩ := hrel
    cases gk with
    | zero => exact absurd HA.out (by simp [cobbleref07_CopyRules.l0])
    | succ k1 =>
      have H := HA.out
      clear HA
      simp only [cobbleref07_CopyRules.l0] at H
      by_cases c13 : x4_1 < (l0_1.length : Int)
      · rw [if_pos c13] at H
        have c13b0 : decide (x4_1 < (l0_1.length : Int)) = true := decide_eq_true c13
        clear c13
        by_cases c14 : 0 ≤ x4_1
        · rw [if_pos c14] at H
          have c14b0 : decide (0 ≤ x4_1) = true := decide_eq_true c14
          clear c14
          replace H := Option.bind_eq_some_iff.mp H
          obtain ⟨t218, A150, H⟩ := H
          replace H : (if x216001_1.length < 3518437208883 then (cobbleref07_CopyRules.l0 k1 (wrap64 (x4_1 + 1)) l0_0 l0_1 t212 (x216001_1 ++ [(⟨(⟨(rd_T39 l0_1 x4_1).f0.f0, (rd_T39 l0_1 x4_1).f0.f1⟩ : S37), t218⟩ : S39)])) else (none)) = some (r1, r2) := H
          have A15 := Aside0.mk A150
          clear A150
          by_cases c16 : x216001_1.length < 3518437208883
          · rw [if_pos c16] at H
            have LMc16 := Aside0.mk c16
            clear c16
            obtain ⟨y221, hy221⟩ : ∃ y_ : List (S39), y_ = (x216001_1 ++ [(⟨(⟨(rd_T39 l0_1 x4_1).f0.f0, (rd_T39 l0_1 x4_1).f0.f1⟩ : S37), t218⟩ : S39)]) := ⟨_, rfl⟩
            replace H : (cobbleref07_CopyRules.l0 k1 (wrap64 (x4_1 + 1)) l0_0 l0_1 t212 y221) = some (r1, r2) := by first | (rw [hy221]; with_reducible exact H) | (have H2_ := (Option.bind_some _ _).symm.trans H; rw [hy221]; with_reducible exact H2_) | (have H2_ := (Option.bind_some _ _).symm.trans H; with_reducible exact H2_) | with_reducible exact H | (rw [hy221]; exact H) | exact H
            have Ny221 := Aside0.mk hy221
            clear hy221
            have H' := Aside0.mk H
            clear H
            have hnb17 := NB210_211.out
            have hnc17 := NB211_210.out
            have hnb18 := NB210_215.out
            have hnc18 := NB215_210.out
            have hcz19_0 : wr.cell? ⟨gb210, 0, none⟩ = some (.slice A0_0 l0_0.length c0_0) := (blk_cell BK210.out 0).trans rfl
            have hcz19_1 : wr.cell? ⟨gb210, 1, none⟩ = some (.slice A0_1 l0_1.length c0_1) := (blk_cell BK210.out 1).trans rfl
            have hfz19_0 := blk_frozen BK210.out 0
            have hfz19_1 := blk_frozen BK210.out 1
            have p216 : 0 ≤ (x4_1 : Int) := of_decide_eq_true (by first | (with_reducible assumption) | assumption)
            have q216 : x4_1 < (l0_1.length : Int) := of_decide_eq_true (by first | (with_reducible assumption) | assumption)
            obtain ⟨ad216, A216_2, c216_2, e216, hx216_0, hx216_1, hx216_2, hl216_2, hi216_2⟩ := at_T39 HR0_1.out x4_1 p216 q216
            cases e216
            replace hx216_0 := (HB.out.cell (World.block_lt_of_cell? w _ hx216_0)).trans hx216_0
            replace hx216_1 := (HB.out.cell (World.block_lt_of_cell? w _ hx216_1)).trans hx216_1
            replace hx216_2 := (HB.out.cell (World.block_lt_of_cell? w _ hx216_2)).trans hx216_2
            have HR216_2 := Aside0.mk hi216_2
            have HC216_2 := Aside0.mk hl216_2
            clear hi216_2 hl216_2
            replace p216 := eq_true p216
            replace q216 := eq_true q216
            go_wp2_with (first | ((with_reducible refine gate_dst (N := 5) rfl ?_); refine box_event ?hg (N := 5) ?hd (cs := #[.int .i64 0, .int .i64 0, .slice none 0 0]) (t := 39) ?hr ?_; (case hd => rfl); (case hg => rfl); (case hr => first | (go_simp; done) | (go_simp; rfl)); intro gb217 hg w20 hbox hb; have n0_ := Aside0.mk (Kd.R_below (by (with_reducible repeat (first | apply Kd.R_alloc | apply Kd.R_drewN | apply Kd.R_drew)); exact HO_216000.out) hb); have n1_ := Aside0.mk (Kd.S_below (Kd.S_elderB (by (with_reducible repeat (first | apply Kd.S_alloc | apply Kd.S_drewN | apply Kd.S_drew)); exact HO_216001.out) gb217 (Nat.le_of_eq hg.symm)) hb); have n2_ := Aside0.mk (blk_below (g := gb210) (o := .cells #[.slice A0_0 l0_0.length c0_0, .slice (some ad216) l0_1.length c0_1] 25 (0, 0)) (by (with_reducible repeat (first | refine blk_drewN ?_ _ | refine blk_drew ?_ | refine blk_alloc ?_ _)); exact BK210.out) hb); have n3_ := Aside0.mk (blk_below (g := gb211) (o := .cells #[.slice none 0 0, .slice none 0 0] 25 (0, 0)) (by (with_reducible repeat (first | refine blk_drewN ?_ _ | refine blk_drew ?_ | refine blk_alloc ?_ _)); exact BK211.out) hb); have n4_ := Aside0.mk (blk_below (g := gb215) (o := .cells #[.slice Ao8 t212.length co8, u216001] 25 (0, 0)) (by (with_reducible repeat (first | refine blk_drewN ?_ _ | refine blk_drew ?_ | refine blk_alloc ?_ _)); exact BK215.out) hb); have n5_ := Aside0.mk (below_step (by repeat (first | (with_reducible first | exact HB.out | apply below_alloc | apply pw_below_drewN | apply below_drew1 | refine below_set ?_ GE210.out | refine below_set ?_ GE211.out | refine below_set ?_ GE215.out) | exact HB.out)) hb); have n6_ := Aside0.mk (hbox); have n7_ := Aside0.mk ((by rw [hg]; exact (below_size (by repeat (first | (with_reducible first | exact HB.out | apply below_alloc | apply pw_below_drewN | apply below_drew1 | refine below_set ?_ GE210.out | refine below_set ?_ GE211.out | refine below_set ?_ GE215.out) | exact HB.out))) : w.heap.size ≤ gb217)); have n8_ := Aside0.mk ((by rw [hg]; exact (below_size (by repeat (first | (with_reducible first | exact HB.out | apply below_alloc | apply pw_below_drewN | apply below_drew1 | refine below_set ?_ GE210.out | refine below_set ?_ GE211.out | refine below_set ?_ GE215.out) | exact HB.out))) : w.heap.size ≤ gb217)); have n9_ := Aside0.mk ((by rw [hg]; exact Nat.ne_of_lt (blk_lt (g := gb210) (o := .cells #[.slice A0_0 l0_0.length c0_0, .slice (some ad216) l0_1.length c0_1] 25 (0, 0)) (by (with_reducible repeat (first | refine blk_drewN ?_ _ | refine blk_drew ?_ | refine blk_alloc ?_ _)); exact BK210.out)) : gb210 ≠ gb217)); have n10_ := Aside0.mk ((by rw [hg]; exact Nat.ne_of_gt (blk_lt (g := gb210) (o := .cells #[.slice A0_0 l0_0.length c0_0, .slice (some ad216) l0_1.length c0_1] 25 (0, 0)) (by (with_reducible repeat (first | refine blk_drewN ?_ _ | refine blk_drew ?_ | refine blk_alloc ?_ _)); exact BK210.out)) : gb217 ≠ gb210)); have n11_ := Aside0.mk ((by rw [hg]; exact Nat.ne_of_lt (blk_lt (g := gb211) (o := .cells #[.slice none 0 0, .slice none 0 0] 25 (0, 0)) (by (with_reducible repeat (first | refine blk_drewN ?_ _ | refine blk_drew ?_ | refine blk_alloc ?_ _)); exact BK211.out)) : gb211 ≠ gb217)); have n12_ := Aside0.mk ((by rw [hg]; exact Nat.ne_of_gt (blk_lt (g := gb211) (o := .cells #[.slice none 0 0, .slice none 0 0] 25 (0, 0)) (by (with_reducible repeat (first | refine blk_drewN ?_ _ | refine blk_drew ?_ | refine blk_alloc ?_ _)); exact BK211.out)) : gb217 ≠ gb211)); have n13_ := Aside0.mk ((by rw [hg]; exact Nat.ne_of_lt (blk_lt (g := gb215) (o := .cells #[.slice Ao8 t212.length co8, u216001] 25 (0, 0)) (by (with_reducible repeat (first | refine blk_drewN ?_ _ | refine blk_drew ?_ | refine blk_alloc ?_ _)); exact BK215.out)) : gb215 ≠ gb217)); have n14_ := Aside0.mk ((by rw [hg]; exact Nat.ne_of_gt (blk_lt (g := gb215) (o := .cells #[.slice Ao8 t212.length co8, u216001] 25 (0, 0)) (by (with_reducible repeat (first | refine blk_drewN ?_ _ | refine blk_drew ?_ | refine blk_alloc ?_ _)); exact BK215.out)) : gb217 ≠ gb215)); clear HO_216000; clear HO_216001; clear BK210; clear BK211; clear BK215; clear HB; have HO_216000 := n0_; have HO_216001 := n1_; have BK210 := n2_; have BK211 := n3_; have BK215 := n4_; have HB := n5_; have BK217 := n6_; have GW217 := n7_; have GE217 := n8_; have NB210_217 := n9_; have NB217_210 := n10_; have NB211_217 := n11_; have NB217_211 := n12_; have NB215_217 := n13_; have NB217_215 := n14_; clear n0_ n1_ n2_ n3_ n4_ n5_ n6_ n7_ n8_ n9_ n10_ n11_ n12_ n13_ n14_; clear hb hbox hg; have hnb21 := NB217_210.out; have hnc21 := NB210_217.out; have hnb22 := NB217_211.out; have hnc22 := NB211_217.out; have hnb23 := NB217_215.out; have hnc23 := NB215_217.out; have hcz24_0 : w20.cell? ⟨gb217, 0, none⟩ = some (.int .i64 0) := (blk_cell BK217.out 0).trans rfl; have hcz24_1 : w20.cell? ⟨gb217, 1, none⟩ = some (.int .i64 0) := (blk_cell BK217.out 1).trans rfl; have hcz24_2 : w20.cell? ⟨gb217, 2, none⟩ = some (.slice none 0 0) := (blk_cell BK217.out 2).trans rfl; have hfz24_0 := blk_frozen BK217.out 0; have hfz24_1 := blk_frozen BK217.out 1; have hfz24_2 := blk_frozen BK217.out 2) | ((with_reducible refine gate_callee (f := 17) rfl ?_); refine goesL_ (some 24) rfl rfl Try.func17 (by kernel_rfl) rfl #[.slice A216_2 ((rd_T39 l0_1 x4_1).f1).length c216_2] rfl (by (try simp only [List.map_toArray, List.map_cons, List.map_nil]); first | done | rfl | (simp only [List.length_drop, List.length_take]; rfl)) ?_; (with_reducible refine (cobblebase_CopyInts.calls _ _ ((rd_T39 l0_1 x4_1).f1) t218 _ ?side1 ?side2 A15.out).mono ?_); (case side1 => exact Kd.C_below HR216_2.out (by repeat (first | (with_reducible first | exact HB.out | apply below_alloc | apply pw_below_drewN | apply below_drew1 | refine below_set ?_ GE210.out | refine below_set ?_ GE211.out | refine below_set ?_ GE215.out | refine below_set ?_ GE217.out) | exact HB.out))); (case side2 => exact HC216_2.out); rintro e w25 ⟨v219, rfl, ho0, hb⟩; refine ⟨_, rfl, ?_⟩; have n0_ := Aside0.mk (Kd.R_elder' (by (with_reducible repeat (first | apply Kd.R_alloc | apply Kd.R_drewN | apply Kd.R_drew)); exact (Kd.R_mono (Kd.R_far (p := ⟨gb217, 2, none⟩) (Kd.R_far (p := ⟨gb217, 1, none⟩) (Kd.R_far (p := ⟨gb217, 0, none⟩) (Kd.R_types HO_216000.out BK217.out (by decide)) (fun _ hk => hk.2) (.int .i64 ((rd_T39 l0_1 x4_1).f0.f0))) (fun _ hk => hk.2) (.int .i64 ((rd_T39 l0_1 x4_1).f0.f1))) (fun _ hk => hk.2) (.slice A216_2 ((rd_T39 l0_1 x4_1).f1).length c216_2)) (fun _ h_ => h_.1))) (Kd.R_base ho0) hb); have n1_ := Aside0.mk (Kd.S_elder' (by (with_reducible repeat (first | apply Kd.S_alloc | apply Kd.S_drewN | apply Kd.S_drew)); exact (Kd.S_mono (Kd.S_far (p := ⟨gb217, 2, none⟩) (Kd.S_far (p := ⟨gb217, 1, none⟩) (Kd.S_far (p := ⟨gb217, 0, none⟩) (Kd.S_mono HO_216001.out (fun k_ hk => (⟨hk, hk.2⟩ : _ ∧ k_ ≠ gb217))) (fun _ hk => hk.2) (.int .i64 ((rd_T39 l0_1 x4_1).f0.f0))) (fun _ hk => hk.2) (.int .i64 ((rd_T39 l0_1 x4_1).f0.f1))) (fun _ hk => hk.2) (.slice A216_2 ((rd_T39 l0_1 x4_1).f1).length c216_2)) (fun _ h_ => h_.1))) (Kd.R_base ho0) hb); have n2_ := Aside0.mk (Kd.R_lower (Kd.R_new' ho0 (Kd.R_lt (by (with_reducible repeat (first | apply Kd.R_alloc | apply Kd.R_drewN | apply Kd.R_drew)); exact (Kd.R_mono (Kd.R_far (p := ⟨gb217, 2, none⟩) (Kd.R_far (p := ⟨gb217, 1, none⟩) (Kd.R_far (p := ⟨gb217, 0, none⟩) (Kd.R_types HO_216000.out BK217.out (by decide)) (fun _ hk => hk.2) (.int .i64 ((rd_T39 l0_1 x4_1).f0.f0))) (fun _ hk => hk.2) (.int .i64 ((rd_T39 l0_1 x4_1).f0.f1))) (fun _ hk => hk.2) (.slice A216_2 ((rd_T39 l0_1 x4_1).f1).length c216_2)) (fun _ h_ => h_.1))))) (below_size (by repeat (first | (with_reducible first | exact HB.out | apply below_alloc | apply pw_below_drewN | apply below_drew1 | refine below_set ?_ GE210.out | refine below_set ?_ GE211.out | refine below_set ?_ GE215.out | refine below_set ?_ GE217.out) | exact HB.out)))); have n3_ := Aside0.mk (blk_below (g := gb210) (o := .cells #[.slice A0_0 l0_0.length c0_0, .slice (some ad216) l0_1.length c0_1] 25 (0, 0)) (by (with_reducible repeat (first | refine blk_drewN ?_ _ | refine blk_drew ?_ | refine blk_alloc ?_ _)); refine blk_far ?_ NB210_217.out _; (with_reducible repeat (first | refine blk_drewN ?_ _ | refine blk_drew ?_ | refine blk_alloc ?_ _)); refine blk_far ?_ NB210_217.out _; (with_reducible repeat (first | refine blk_drewN ?_ _ | refine blk_drew ?_ | refine blk_alloc ?_ _)); refine blk_far ?_ NB210_217.out _; (with_reducible repeat (first | refine blk_drewN ?_ _ | refine blk_drew ?_ | refine blk_alloc ?_ _)); exact BK210.out) hb); have n4_ := Aside0.mk (blk_below (g := gb211) (o := .cells #[.slice none 0 0, .slice none 0 0] 25 (0, 0)) (by (with_reducible repeat (first | refine blk_drewN ?_ _ | refine blk_drew ?_ | refine blk_alloc ?_ _)); refine blk_far ?_ NB211_217.out _; (with_reducible repeat (first | refine blk_drewN ?_ _ | refine blk_drew ?_ | refine blk_alloc ?_ _)); refine blk_far ?_ NB211_217.out _; (with_reducible repeat (first | refine blk_drewN ?_ _ | refine blk_drew ?_ | refine blk_alloc ?_ _)); refine blk_far ?_ NB211_217.out _; (with_reducible repeat (first | refine blk_drewN ?_ _ | refine blk_drew ?_ | refine blk_alloc ?_ _)); exact BK211.out) hb); have n5_ := Aside0.mk (blk_below (g := gb215) (o := .cells #[.slice Ao8 t212.length co8, u216001] 25 (0, 0)) (by (with_reducible repeat (first | refine blk_drewN ?_ _ | refine blk_drew ?_ | refine blk_alloc ?_ _)); refine blk_far ?_ NB215_217.out _; (with_reducible repeat (first | refine blk_drewN ?_ _ | refine blk_drew ?_ | refine blk_alloc ?_ _)); refine blk_far ?_ NB215_217.out _; (with_reducible repeat (first | refine blk_drewN ?_ _ | refine blk_drew ?_ | refine blk_alloc ?_ _)); refine blk_far ?_ NB215_217.out _; (with_reducible repeat (first | refine blk_drewN ?_ _ | refine blk_drew ?_ | refine blk_alloc ?_ _)); exact BK215.out) hb); have n6_ := Aside0.mk (blk_below (g := gb217) (o := .cells #[.int .i64 ((rd_T39 l0_1 x4_1).f0.f0), .int .i64 ((rd_T39 l0_1 x4_1).f0.f1), .slice A216_2 ((rd_T39 l0_1 x4_1).f1).length c216_2] 39 (0, 0)) (by (with_reducible repeat (first | refine blk_drewN ?_ _ | refine blk_drew ?_ | refine blk_alloc ?_ _)); refine blk_put (cs := #[.int .i64 ((rd_T39 l0_1 x4_1).f0.f0), .int .i64 ((rd_T39 l0_1 x4_1).f0.f1), .slice none 0 0]) ?_ 2 _ rfl; (with_reducible repeat (first | refine blk_drewN ?_ _ | refine blk_drew ?_ | refine blk_alloc ?_ _)); refine blk_put (cs := #[.int .i64 ((rd_T39 l0_1 x4_1).f0.f0), .int .i64 0, .slice none 0 0]) ?_ 1 _ rfl; (with_reducible repeat (first | refine blk_drewN ?_ _ | refine blk_drew ?_ | refine blk_alloc ?_ _)); refine blk_put (cs := #[.int .i64 0, .int .i64 0, .slice none 0 0]) ?_ 0 _ rfl; (with_reducible repeat (first | refine blk_drewN ?_ _ | refine blk_drew ?_ | refine blk_alloc ?_ _)); exact BK217.out) hb); have n7_ := Aside0.mk (below_step (by repeat (first | (with_reducible first | exact HB.out | apply below_alloc | apply pw_below_drewN | apply below_drew1 | refine below_set ?_ GE210.out | refine below_set ?_ GE211.out | refine below_set ?_ GE215.out | refine below_set ?_ GE217.out) | exact HB.out)) hb); clear HO_216000; clear HO_216001; clear BK210; clear BK211; clear BK215; clear BK217; clear HB; have HO_216000 := n0_; have HO_216001 := n1_; have HO220 := n2_; have BK210 := n3_; have BK211 := n4_; have BK215 := n5_; have BK217 := n6_; have HB := n7_; clear n0_ n1_ n2_ n3_ n4_ n5_ n6_ n7_; (try clear hb); (try clear hb2); (try clear hk); (try clear hi); (try clear ho0); obtain ⟨Ao26, co26, eo26⟩ := Kd.R_slice HO220.out; subst eo26; have hcz27_0 : w25.cell? ⟨gb217, 0, none⟩ = some (.int .i64 ((rd_T39 l0_1 x4_1).f0.f0)) := (blk_cell BK217.out 0).trans rfl; have hcz27_1 : w25.cell? ⟨gb217, 1, none⟩ = some (.int .i64 ((rd_T39 l0_1 x4_1).f0.f1)) := (blk_cell BK217.out 1).trans rfl; have hcz27_2 : w25.cell? ⟨gb217, 2, none⟩ = some (.slice A216_2 ((rd_T39 l0_1 x4_1).f1).length c216_2) := (blk_cell BK217.out 2).trans rfl; have hfz27_0 := blk_frozen BK217.out 0; have hfz27_1 := blk_frozen BK217.out 1; have hfz27_2 := blk_frozen BK217.out 2) | ((with_reducible refine gate_store (t := 22) (p := 25) rfl ?_); refine store_event (t := 22) (p := 25) (v := ?vo_w28) (w1 := (w25.setCell ⟨gb217, 2, none⟩ (.slice Ao26 t218.length co26))) ?hg ?ho ?hn ?hr ?_; (case ho => rfl); (case hg => rfl); (case hn => rfl); (case hr => first | (go_simp; done) | (go_simp; rfl)); intro w28 hw; have n0_ : Aside0 (Kd.R (Kd.int .i64) 3 w28 w.heap.size (fun k_ => some k_ ≠ (.slice Ao26 t218.length co26 : Value).ownBlock) (.slice Ao8 t212.length co8) t212) := ⟨(by rw [hw]; exact (by (with_reducible repeat (first | apply Kd.R_alloc | apply Kd.R_drewN | apply Kd.R_drew)); exact Kd.R_mono (Kd.R_far (p := ⟨gb217, 2, none⟩) (Kd.R_types HO_216000.out BK217.out (by decide)) (fun _ hk => hk.2) (.slice Ao26 t218.length co26)) (fun _ hk => hk.1.2)))⟩; have n1_ : Aside0 (Kd.S k39 39 w28 w.heap.size (fun k_ => some k_ ≠ (.slice Ao8 t212.length co8 : Value).ownBlock ∧ some k_ ≠ (.slice Ao26 t218.length co26 : Value).ownBlock ∧ k_ ≠ gb217) u216001 x216001_1) := ⟨(by rw [hw]; exact (by (with_reducible repeat (first | apply Kd.S_alloc | apply Kd.S_drewN | apply Kd.S_drew)); exact Kd.S_mono (Kd.S_far (p := ⟨gb217, 2, none⟩) (Kd.S_mono HO_216001.out (fun k_ hk => (⟨hk, hk.1.2⟩ : _ ∧ k_ ≠ gb217))) (fun _ hk => hk.2) (.slice Ao26 t218.length co26)) (fun _ hk => ⟨hk.1.1.1, ⟨hk.1.2, hk.1.1.2⟩⟩)))⟩; have n2_ : Aside0 (Kd.R (Kd.int .i64) 3 w28 w.heap.size (fun k_ => some k_ ≠ (.slice Ao8 t212.length co8 : Value).ownBlock) (.slice Ao26 t218.length co26) t218) := ⟨(by rw [hw]; exact (by (with_reducible repeat (first | apply Kd.R_alloc | apply Kd.R_drewN | apply Kd.R_drew)); exact Kd.R_mono (Kd.R_far (p := ⟨gb217, 2, none⟩) (Kd.R_types HO220.out BK217.out (by decide)) (fun _ hk => hk.2) (.slice Ao26 t218.length co26)) (fun _ hk => hk.1.2)))⟩; have n3_ : Aside0 (w28.heap[gb210]? = some (.cells #[.slice A0_0 l0_0.length c0_0, .slice (some ad216) l0_1.length c0_1] 25 (0, 0))) := ⟨(by rw [hw]; exact (by (with_reducible repeat (first | refine blk_drewN ?_ _ | refine blk_drew ?_ | refine blk_alloc ?_ _)); refine blk_far ?_ NB210_217.out _; (with_reducible repeat (first | refine blk_drewN ?_ _ | refine blk_drew ?_ | refine blk_alloc ?_ _)); exact BK210.out))⟩; have n4_ : Aside0 (w28.heap[gb211]? = some (.cells #[.slice none 0 0, .slice none 0 0] 25 (0, 0))) := ⟨(by rw [hw]; exact (by (with_reducible repeat (first | refine blk_drewN ?_ _ | refine blk_drew ?_ | refine blk_alloc ?_ _)); refine blk_far ?_ NB211_217.out _; (with_reducible repeat (first | refine blk_drewN ?_ _ | refine blk_drew ?_ | refine blk_alloc ?_ _)); exact BK211.out))⟩; have n5_ : Aside0 (w28.heap[gb215]? = some (.cells #[.slice Ao8 t212.length co8, u216001] 25 (0, 0))) := ⟨(by rw [hw]; exact (by (with_reducible repeat (first | refine blk_drewN ?_ _ | refine blk_drew ?_ | refine blk_alloc ?_ _)); refine blk_far ?_ NB215_217.out _; (with_reducible repeat (first | refine blk_drewN ?_ _ | refine blk_drew ?_ | refine blk_alloc ?_ _)); exact BK215.out))⟩; have n6_ : Aside0 (w28.heap[gb217]? = some (.cells #[.int .i64 ((rd_T39 l0_1 x4_1).f0.f0), .int .i64 ((rd_T39 l0_1 x4_1).f0.f1), .slice Ao26 t218.length co26] 39 (0, 0))) := ⟨(by rw [hw]; exact (by (with_reducible repeat (first | refine blk_drewN ?_ _ | refine blk_drew ?_ | refine blk_alloc ?_ _)); refine blk_put (cs := #[.int .i64 ((rd_T39 l0_1 x4_1).f0.f0), .int .i64 ((rd_T39 l0_1 x4_1).f0.f1), .slice A216_2 ((rd_T39 l0_1 x4_1).f1).length c216_2]) ?_ 2 _ rfl; (with_reducible repeat (first | refine blk_drewN ?_ _ | refine blk_drew ?_ | refine blk_alloc ?_ _)); exact BK217.out))⟩; have n7_ : Aside0 (Below w.heap.size w w28) := ⟨(by rw [hw]; exact (by repeat (first | (with_reducible first | exact HB.out | apply below_alloc | apply pw_below_drewN | apply below_drew1 | refine below_set ?_ GE210.out | refine below_set ?_ GE211.out | refine below_set ?_ GE215.out | refine below_set ?_ GE217.out) | exact HB.out)))⟩; clear hw; clear HO_216000; clear HO_216001; clear HO220; clear BK210; clear BK211; clear BK215; clear BK217; clear HB; have HO_216000 := n0_; have HO_216001 := n1_; have HO220 := n2_; have BK210 := n3_; have BK211 := n4_; have BK215 := n5_; have BK217 := n6_; have HB := n7_; clear n0_ n1_ n2_ n3_ n4_ n5_ n6_ n7_; have hnb29 := NB215_211.out; have hnc29 := NB211_215.out; have hcz30_0 : w28.cell? ⟨gb215, 0, none⟩ = some (.slice Ao8 t212.length co8) := (blk_cell BK215.out 0).trans rfl; have hcz30_1 : w28.cell? ⟨gb215, 1, none⟩ = some (u216001) := (blk_cell BK215.out 1).trans rfl; have hfz30_0 := blk_frozen BK215.out 0; have hfz30_1 := blk_frozen BK215.out 1; have hcz31_0 : w28.cell? ⟨gb217, 0, none⟩ = some (.int .i64 ((rd_T39 l0_1 x4_1).f0.f0)) := (blk_cell BK217.out 0).trans rfl; have hcz31_1 : w28.cell? ⟨gb217, 1, none⟩ = some (.int .i64 ((rd_T39 l0_1 x4_1).f0.f1)) := (blk_cell BK217.out 1).trans rfl; have hcz31_2 : w28.cell? ⟨gb217, 2, none⟩ = some (.slice Ao26 t218.length co26) := (blk_cell BK217.out 2).trans rfl; have hfz31_0 := blk_frozen BK217.out 0; have hfz31_1 := blk_frozen BK217.out 1; have hfz31_2 := blk_frozen BK217.out 2) | ((with_reducible refine gate_builtin (b := .append) (xs := #[.tmp 27, .tmp 29]) rfl ?_); at_builtin; refine Kd.S_append k39 (w0 := w) w.heap.size rfl (.tmp 27) (.tmp 29) 23 39 (.agg #[(.int .i64 0), (.int .i64 0), (.slice none 0 0)]) 40 rfl Try.underlying23 info39 rfl (by decide) (by omega) u216001 x216001_1 (⟨(⟨(rd_T39 l0_1 x4_1).f0.f0, (rd_T39 l0_1 x4_1).f0.f1⟩ : S37), t218⟩ : S39) [.int .i64 ((rd_T39 l0_1 x4_1).f0.f0), .int .i64 ((rd_T39 l0_1 x4_1).f0.f1), .slice Ao26 t218.length co26] (fun k_ => some k_ ≠ (.slice Ao8 t212.length co8 : Value).ownBlock ∧ k_ ≠ gb217) (fun k_ => some k_ = (.slice Ao26 t218.length co26 : Value).ownBlock) rfl rfl ?aP (fun k_ hk_ => ((Kd.R_mono (ok' := fun k_ => ((fun k_ => some k_ ≠ (.slice Ao8 t212.length co8 : Value).ownBlock ∧ k_ ≠ gb217)) k_ ∧ some k_ ≠ (u216001 : Value).ownBlock) (Kd.R_types (Kd.R_apart' (HO220.out) (Kd.S_typed HO_216001.out) (by decide)) BK217.out (by decide)) (fun k_ hk => ⟨⟨hk.1.1, hk.2⟩, hk.1.2⟩))).1 k_ hk_.symm) ?aF ?aO ?aB ?aS ?aL ?_; (case aP => exact k39_mkM _ _ _ (⟨(⟨(rd_T39 l0_1 x4_1).f0.f0, (rd_T39 l0_1 x4_1).f0.f1⟩ : S37), t218⟩ : S39) (Kd.R_mono (Kd.R_tight rfl (Kd.R_mono (ok' := fun k_ => ((fun k_ => some k_ ≠ (.slice Ao8 t212.length co8 : Value).ownBlock ∧ k_ ≠ gb217)) k_ ∧ some k_ ≠ (u216001 : Value).ownBlock) (Kd.R_types (Kd.R_apart' (HO220.out) (Kd.S_typed HO_216001.out) (by decide)) BK217.out (by decide)) (fun k_ hk => ⟨⟨hk.1.1, hk.2⟩, hk.1.2⟩))) (fun _ h_ => h_))); (case aB => exact (by repeat (first | (with_reducible first | exact HB.out | apply below_alloc | apply pw_below_drewN | apply below_drew1 | refine below_set ?_ GE210.out | refine below_set ?_ GE211.out | refine below_set ?_ GE215.out | refine below_set ?_ GE217.out) | exact HB.out))); (case aF => exact (fun k_ hk => ⟨Kd.fresh' (Kd.R_lt (by (with_reducible repeat (first | apply Kd.R_alloc | apply Kd.R_drewN | apply Kd.R_drew)); exact HO_216000.out)) k_ hk, Kd.freshB (g := gb217) (o := .cells #[.int .i64 ((rd_T39 l0_1 x4_1).f0.f0), .int .i64 ((rd_T39 l0_1 x4_1).f0.f1), .slice Ao26 t218.length co26] 39 (0, 0)) (by (with_reducible repeat (first | refine blk_drewN ?_ _ | refine blk_drew ?_ | refine blk_alloc ?_ _)); exact BK217.out) k_ hk⟩)); (case aO => exact (by (with_reducible repeat (first | apply Kd.S_alloc | apply Kd.S_drewN | apply Kd.S_drew)); exact Kd.S_mono HO_216001.out (fun k_ hk => ⟨⟨hk.1, hk.2.2⟩, fun e_ => hk.2.1 e_⟩))); (case aS => exact (below_size (by repeat (first | (with_reducible first | exact HB.out | apply below_alloc | apply pw_below_drewN | apply below_drew1 | refine below_set ?_ GE210.out | refine below_set ?_ GE211.out | refine below_set ?_ GE215.out | refine below_set ?_ GE217.out) | exact HB.out)))); (case aL => have := LMc16.out; omega); intro v222 w32 ho hb hg hat; rw [← Ny221.out] at ho; have n0_ := Aside0.mk (Kd.R_over' (by (with_reducible repeat (first | apply Kd.R_alloc | apply Kd.R_drewN | apply Kd.R_drew)); exact HO_216000.out) (Kd.S_typed (by (with_reducible repeat (first | apply Kd.S_alloc | apply Kd.S_drewN | apply Kd.S_drew)); exact HO_216001.out)) (by decide) hg); have n1_ := Aside0.mk (blk_grown (g := gb210) (o := .cells #[.slice A0_0 l0_0.length c0_0, .slice (some ad216) l0_1.length c0_1] 25 (0, 0)) (by (with_reducible repeat (first | refine blk_drewN ?_ _ | refine blk_drew ?_ | refine blk_alloc ?_ _)); exact BK210.out) hg (Kd.S_ne HO_216001.out BK210.out (by decide))); have n2_ := Aside0.mk (blk_grown (g := gb211) (o := .cells #[.slice none 0 0, .slice none 0 0] 25 (0, 0)) (by (with_reducible repeat (first | refine blk_drewN ?_ _ | refine blk_drew ?_ | refine blk_alloc ?_ _)); exact BK211.out) hg (Kd.S_ne HO_216001.out BK211.out (by decide))); have n3_ := Aside0.mk (blk_grown (g := gb215) (o := .cells #[.slice Ao8 t212.length co8, u216001] 25 (0, 0)) (by (with_reducible repeat (first | refine blk_drewN ?_ _ | refine blk_drew ?_ | refine blk_alloc ?_ _)); exact BK215.out) hg (Kd.S_ne HO_216001.out BK215.out (by decide))); have n4_ := Aside0.mk (blk_grown (g := gb217) (o := .cells #[.int .i64 ((rd_T39 l0_1 x4_1).f0.f0), .int .i64 ((rd_T39 l0_1 x4_1).f0.f1), .slice Ao26 t218.length co26] 39 (0, 0)) (by (with_reducible repeat (first | refine blk_drewN ?_ _ | refine blk_drew ?_ | refine blk_alloc ?_ _)); exact BK217.out) hg (Kd.S_away HO_216001.out (fun _ hk => hk.2.2))); have n5_ := Aside0.mk (hb); have n6_ := Aside0.mk (ho); clear HO_216000; clear BK210; clear BK211; clear BK215; clear BK217; clear HB; clear HO_216001; clear HO220; have HO_216000 := n0_; have BK210 := n1_; have BK211 := n2_; have BK215 := n3_; have BK217 := n4_; have HB := n5_; have HO223 := n6_; clear n0_ n1_ n2_ n3_ n4_ n5_ n6_; clear ho hb hg hat; obtain ⟨Ao33, co33, eo33⟩ := Kd.S_slice HO223.out; subst eo33; have hcz34_0 : w32.cell? ⟨gb215, 0, none⟩ = some (.slice Ao8 t212.length co8) := (blk_cell BK215.out 0).trans rfl; have hcz34_1 : w32.cell? ⟨gb215, 1, none⟩ = some (u216001) := (blk_cell BK215.out 1).trans rfl; have hfz34_0 := blk_frozen BK215.out 0; have hfz34_1 := blk_frozen BK215.out 1))
            go_roundg k1
            case measure => have := HK1.out; omega
            case rel => exact ⟨(wrap64 (x4_1 + 1)), (y221), (.slice Ao33 y221.length co33), (by first | rfl | (simp; done) | (simp [*]; done)), H', ⟨by have := HK1.out; omega⟩, ⟨by (with_reducible repeat (first | apply Kd.R_alloc | apply Kd.R_drewN | apply Kd.R_drew)); exact Kd.R_mono (Kd.R_far (p := ⟨gb215, 1, none⟩) (Kd.R_types HO_216000.out BK215.out (by decide)) (fun _ hk => hk.2) (.slice Ao33 y221.length co33)) (fun _ hk => trivial)⟩, ⟨by (with_reducible repeat (first | apply Kd.S_alloc | apply Kd.S_drewN | apply Kd.S_drew)); exact Kd.S_mono (Kd.S_far (p := ⟨gb215, 1, none⟩) (Kd.S_types HO223.out BK215.out (by decide)) (fun _ hk => hk.2) (.slice Ao33 y221.length co33)) (fun _ hk => hk.1.1)⟩, ⟨by (with_reducible repeat (first | refine blk_drewN ?_ _ | refine blk_drew ?_ | refine blk_alloc ?_ _)); refine blk_far ?_ NB210_215.out _; (with_reducible repeat (first | refine blk_drewN ?_ _ | refine blk_drew ?_ | refine blk_alloc ?_ _)); exact BK210.out⟩, ⟨by (with_reducible repeat (first | refine blk_drewN ?_ _ | refine blk_drew ?_ | refine blk_alloc ?_ _)); refine blk_far ?_ NB211_215.out _; (with_reducible repeat (first | refine blk_drewN ?_ _ | refine blk_drew ?_ | refine blk_alloc ?_ _)); exact BK211.out⟩, ⟨by (with_reducible repeat (first | refine blk_drewN ?_ _ | refine blk_drew ?_ | refine blk_alloc ?_ _)); refine blk_put (cs := #[.slice Ao8 t212.length co8, u216001]) ?_ 1 _ rfl; (with_reducible repeat (first | refine blk_drewN ?_ _ | refine blk_drew ?_ | refine blk_alloc ?_ _)); exact BK215.out⟩, ⟨by repeat (first | (with_reducible first | exact HB.out | apply below_alloc | apply pw_below_drewN | apply below_drew1 | refine below_set ?_ GE210.out | refine below_set ?_ GE211.out | refine below_set ?_ GE215.out | refine below_set ?_ GE217.out) | exact HB.out)⟩⟩
          · rw [if_neg c16] at H
            exact absurd H (by simp)
        · rw [if_neg c14] at H
          exact absurd H (by simp)
      · rw [if_neg c13] at H
        have c13b0 : decide (x4_1 < (l0_1.length : Int)) = false := decide_eq_false c13
        clear c13
        simp only [Option.some.injEq, Prod.mk.injEq] at H
        obtain ⟨rfl, rfl⟩ := H
        have hnb35 := NB210_211.out
        have hnc35 := NB211_210.out
        have hnb36 := NB210_215.out
        have hnc36 := NB215_210.out
        have hcz37_0 : wr.cell? ⟨gb210, 0, none⟩ = some (.slice A0_0 l0_0.length c0_0) := (blk_cell BK210.out 0).trans rfl
        have hcz37_1 : wr.cell? ⟨gb210, 1, none⟩ = some (.slice A0_1 l0_1.length c0_1) := (blk_cell BK210.out 1).trans rfl
        have hfz37_0 := blk_frozen BK210.out 0
        have hfz37_1 := blk_frozen BK210.out 1
        have hnb38 := NB215_211.out
        have hnc38 := NB211_215.out
        have hcz39_0 : wr.cell? ⟨gb215, 0, none⟩ = some (.slice Ao8 t212.length co8) := (blk_cell BK215.out 0).trans rfl
        have hcz39_1 : wr.cell? ⟨gb215, 1, none⟩ = some (u216001) := (blk_cell BK215.out 1).trans rfl
        have hfz39_0 := blk_frozen BK215.out 0
        have hfz39_1 := blk_frozen BK215.out 1
        have hcz40_0 : wr.cell? ⟨gb211, 0, none⟩ = some (.slice none 0 0) := (blk_cell BK211.out 0).trans rfl
        have hcz40_1 : wr.cell? ⟨gb211, 1, none⟩ = some (.slice none 0 0) := (blk_cell BK211.out 1).trans rfl
        have hfz40_0 := blk_frozen BK211.out 0
        have hfz40_1 := blk_frozen BK211.out 1
        obtain ⟨Ao41, co41, eo41⟩ := Kd.S_slice HO_216001.out
        subst eo41
        go_wp2
        refine bodyPost_ret (results_cell_row rfl _ _ gb211 25 #[.slice Ao8 t212.length co8, .slice Ao41 x216001_1.length co41] (0, 0) _ rfl (by (with_reducible repeat (first | refine blk_drewN ?_ _ | refine blk_drew ?_ | refine blk_alloc ?_ _)); refine blk_put (cs := #[.slice Ao8 t212.length co8, .slice none 0 0]) ?_ 1 _ rfl; (with_reducible repeat (first | refine blk_drewN ?_ _ | refine blk_drew ?_ | refine blk_alloc ?_ _)); refine blk_put (cs := #[.slice none 0 0, .slice none 0 0]) ?_ 0 _ rfl; (with_reducible repeat (first | refine blk_drewN ?_ _ | refine blk_drew ?_ | refine blk_alloc ?_ _)); exact BK211.out) Try.underlying25 rfl (by kernel_rfl)) rfl ?_
        exact ⟨_, _, by first | rfl | (simp [errW_none, errW_some] <;> rfl) | (simp [*, errW_none, errW_some] <;> rfl), by (with_reducible repeat (first | apply Kd.R_alloc | apply Kd.R_drewN | apply Kd.R_drew)); exact Kd.R_mono (Kd.R_far (p := ⟨gb211, 1, none⟩) (Kd.R_far (p := ⟨gb211, 0, none⟩) (Kd.R_types HO_216000.out BK211.out (by decide)) (fun _ hk => hk.2) (.slice Ao8 t212.length co8)) (fun _ hk => hk.2) (.slice Ao41 x216001_1.length co41)) (fun _ hk => trivial), by (with_reducible repeat (first | apply Kd.S_alloc | apply Kd.S_drewN | apply Kd.S_drew)); exact Kd.S_mono (Kd.S_far (p := ⟨gb211, 1, none⟩) (Kd.S_far (p := ⟨gb211, 0, none⟩) (Kd.S_types HO_216001.out BK211.out (by decide)) (fun _ hk => hk.2) (.slice Ao8 t212.length co8)) (fun _ hk => hk.2) (.slice Ao41 x216001_1.length co41)) (fun _ hk => hk.1), by repeat (first | (with_reducible first | exact HB.out | apply below_alloc | apply pw_below_drewN | apply below_drew1 | refine below_set ?_ GE210.out | refine below_set ?_ GE211.out | refine below_set ?_ GE215.out) | exact HB.out)⟩


end Go.Proofs.Ytbijfhmpafjceaa.PFlatKept
