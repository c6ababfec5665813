import Derived.Test.YtbijfhmpafjceaaE6
import Derived.Maps.OwnIn
set_option linter.unusedSimpArgs false
set_option linter.unusedVariables false
namespace Go.Proofs.Ytbijfhmpafjceaa.E
open Go.RowKit Go.Proofs.YtbijfhmpafjceaaW.PrintWords Go.Proofs.Ytbijfhmpafjceaa.PFlatKept
attribute [local go_sem] Oper.semAt_some

/-- 'v = append(v, y)' of an int, where the walk is fenced. -/
theorem append_in {F : Fence} {nF : Nat} {P : Program} {ops : Array Oper} {rest : List Oper} {o : Oper} {a : Act} {Q : Exit → Act → World → Prop} {W : World} (base : Nat) (hgd : o.guard = none) (s x : Operand) (t e : TypeId) (k : IntKind) (bytes : Nat)
    (ho : o.op = .call { callee := .builtin .append, args := #[s, x], argTypes := #[t, t] }) (ht : P.underlying t = some (.slice e))
    (hinfo : (P.info? e).map (fun i => (i.zero, i.size, i.bytes)) = some (some (.int k 0), 1, bytes))
    (v : Value) (xs : List Int) (y : Int) {b : Nat} (hs : a.eval s = v) (hx : a.eval x = .slice (some ⟨b, 0, none⟩) 1 1) (hb : b = W.heap.size) (hb0 : 0 < bytes)
    (HO : W.ownsRow base e 1 v xs.length (nums k xs)) (hbase : base ≤ W.heap.size) (hl : (xs.length + 1) * bytes ≤ 140737488355328)
    (h : ∀ v1 w1, w1.ownsRow base e 1 v1 (xs.length + 1) (nums k (xs ++ [y])) → W.grownBy w1 v.ownBlock → wpListIn F nF P ops Q rest (a.put o.dst v1) w1) :
    wpListIn F nF P ops Q (o :: rest) a (W.alloc (.cells #[.int k y] e)) := by
  subst hb
  obtain ⟨i0, hi, hzz⟩ := Option.map_eq_some_iff.1 hinfo
  simp only [Prod.mk.injEq] at hzz
  obtain ⟨hz0, hz1, hz2⟩ := hzz
  have hlen : xs.length + 1 ≤ 140737488355328 := Nat.le_trans (Nat.le_mul_of_pos_right _ hb0) hl
  refine wpListIn_append_own_at (W.alloc (.cells #[.int k y] e)) hgd s x t ho base e i0 (.int k 0) 1 bytes ht hi hz0 hz1 hz2 rfl (by omega) v xs.length (nums k xs) hs (HO.alloc _) ⟨W.heap.size, 0, none⟩ 1 1 [.int k y] hx rfl
    (World.news_of_block (cs := #[.int k y]) (t := e) (fr := (0, 0)) (heap_alloc_new W _)) (by simp [Value.oneCell']) (by simp only [maxLen]; omega) hl (by simp; omega) ?_
  intro v1 w1 hown hg _ _
  exact h v1 w1 (by rw [nums_append]; exact hown) (World.grownBy.trans (World.grownBy_alloc W _ _) hg)

/-- What lies in m cells of a block. -/
def rdrow (W : World) (g m : Nat) : List Int := (List.range m).map fun j => intOf ((W.cell? ⟨g, j, none⟩).getD undef)
theorem rdrow_own {W : World} {base g n cap : Nat} {xs : List Int} (h : W.ownsRow base 3 1 (.slice (some ⟨g, 0, none⟩) n cap) n (nums .i64 xs)) : rdrow W g n = xs := by
  have hl : xs.length = n := by have := h.1; simpa [nums] using this
  apply List.ext_getElem (by simp [rdrow, hl])
  intro j h1 h2
  have := (own_at h (j : Int) (by omega) (by omega)).1
  simp only [Int.toNat_natCast] at this
  simp only [rdrow, List.getElem_map, List.getElem_range]
  rw [this]
  simp [intOf, rd, List.getD_eq_getElem?_getD, h2]

theorem drop_get {α : Type} (xs : List α) (j : Nat) (x : α) (h : xs[j]? = some x) : xs.drop j = x :: xs.drop (j + 1) := by
  obtain ⟨hj, e⟩ := List.getElem?_eq_some_iff.1 h
  rw [List.drop_eq_getElem_cons hj, e]
theorem get_row (xs ys : List Int) (j : Nat) (x : Int) (hj : j < xs.length) (h : rd (xs.take (j + 1) ++ ys) (j : Int) = x) : xs[j]? = some x := by
  rw [← h]
  simp [rd, List.getD_eq_getElem?_getD, List.getElem?_append, List.getElem?_take, hj, show j < min (j + 1) xs.length by omega]
theorem set_row (xs ys : List Int) (j : Nat) (x v : Int) (h : xs[j]? = some x) : (xs.take (j + 1) ++ ys).set j v = xs.take j ++ v :: ys := by
  obtain ⟨hj, e⟩ := List.getElem?_eq_some_iff.1 h
  rw [List.take_succ_eq_append_getElem hj, List.append_assoc, List.set_append_right _ _ (by simp; omega)]
  simp [Nat.min_eq_left (Nat.le_of_lt hj)]

set_option maxRecDepth 100000 in
set_option maxHeartbeats 1000000 in
theorem settings_at (A0 A1 : Option Addr) (nt c0 c1 : Nat) (acts : List S39) (hm : 1 ≤ acts.length) (hm3 : acts.length ≤ 3) (hin : ∀ a ∈ acts, -10 ≤ a.f0.f0 ∧ a.f0.f0 ≤ a.f0.f1 ∧ a.f0.f1 ≤ 10) (l : Nat) (W : World)
    (hr1 : Kd.C k39 W A1 acts.length acts) (J : Nat → Nat → World → Prop) (Jx : World → Prop)
    (hJ0 : ∀ g Y, W.heap.size ≤ g → g < Y.heap.size → Below W.heap.size W Y → J g 0 Y)
    (hJs : ∀ g i X j v, W.heap.size ≤ g → J g i X → J g i (X.setCell ⟨g, j, none⟩ v))
    (hJd : ∀ g i X, J g i X → J g i X.drew)
    (hJc : ∀ g i X, J g i X → Kd.C k39 X A1 acts.length acts)
    (hY : ∀ g n1 i X c xs, W.heap.size ≤ g → g < n1 → n1 ≤ X.heap.size → (sets acts)[i]? = some xs → J g i X → X.ownsRow W.heap.size 3 1 (.slice (some ⟨g, 0, none⟩) acts.length c) acts.length (nums .i64 xs) →
      YieldAt Fence.wide 0 Try.prog l #[.slice (some ⟨g, 0, none⟩) acts.length c] X fun e Y =>
        (e = .returned (.bool true) ∧ J g (i + 1) Y ∧ n1 ≤ Y.heap.size ∧ ∀ k, W.heap.size ≤ k → k < n1 → Y.heap[k]? = X.heap[k]?) ∨ (e = .returned (.bool false) ∧ Jx Y)) :
    Calls Try.prog 34 #[.agg #[.slice A0 nt c0, .slice A1 acts.length c1], .func (.yield l) #[] #[]] W fun e Y => (∃ v, e = .returned v) ∧ ((∃ g, J g (sets acts).length Y) ∨ Jx Y) := by
  refine (callsIn_wide (n := 1)).1 ?_
  refine callsIn_of_wp Try.func34 rfl trivial ?_ rfl
  simp only [Try.ntmps34, List.size_toArray, List.length_cons, List.length_nil, Nat.reduceAdd, Nat.reduceSub, Array.replicate_succ, Array.replicate_zero, List.push_toArray, List.append_toArray, List.nil_append, List.cons_append]
  have HJ0 := Aside0.mk hJ0
  have HJS := Aside0.mk hJs
  have HJD := Aside0.mk hJd
  have HJC := Aside0.mk hJc
  have HY := Aside0.mk hY
  have HR := Aside0.mk hr1
  have HIN := Aside0.mk hin
  clear hJ0 hJs hJd hJc hY hr1 hin
  gi_wp2
  gi_loopw [4, 12] (fun v4 v12 wr => ∃ k : Nat, k ≤ acts.length ∧ v12 = .int .i64 k ∧ Aside0 (wr.ownsRow W.heap.size 3 1 v4 k (nums .i64 ((los acts).take k))) ∧ Aside0 (Below W.heap.size W wr) ∧ Aside0 (wr.heap[W.heap.size]? = some (.cells #[.slice A0 nt c0, .slice A1 acts.length c1] 81 (0, 0)))) (fun _ v12 _ => acts.length - (intOf v12).toNat)
  case atStart => exact ⟨0, Nat.zero_le _, rfl, ⟨own_nil _ _ _ _⟩, ⟨(Below.refl _ _).alloc (Nat.le_refl _) _⟩, ⟨World.alloc_heap_new _ _⟩⟩
  case round =>
    obtain ⟨k, hk, rfl, HO, HB, HX⟩ := hrel
    by_cases hlt : k < acts.length
    · obtain ⟨ad, A2, c2, e, hx0, hx1, hx2, hl2, hi2⟩ := at_T39 (Kd.C_below HR.out HB.out) (k : Int) (by omega) (by omega)
      subst e
      simp only [Int.toNat_natCast] at hx0 hx1 hx2
      have HD : Aside0 ((los acts).take (k + 1) = (los acts).take k ++ [(rd_T39 acts k).f0.f0]) := ⟨by
        rw [List.take_succ_eq_append_getElem (by simpa [los] using hlt)]
        simp [los, rd_T39, List.getD_eq_getElem?_getD, hlt]⟩
      have HL : Aside0 (((los acts).take k).length = k) := ⟨by simp [los]; omega⟩
      generalize rd_T39 acts k = a at *
      clear hi2
      gi_wp2_with (first | (gi_at_builtin;  refine append_in W.heap.size rfl _ _ 22 3 .i64 8 rfl Try.underlying22 info3 _ _ a.f0.f0 rfl rfl (by simp) (by decide) (by rw [HL.out]; exact ((HO.out.alloc _))) (by have := HB.out.size; simp; omega) (by rw [HL.out]; omega) ?_; intro v1 w1 hown hgr) | gi_in)
      have hgr' : (wr.alloc (.cells #[.int .i64 a.f0.f0, .int .i64 a.f0.f1, .slice A2 a.f1.length c2] 39)).grownBy w1 u4.ownBlock := hgr
      have hsz := HB.out.size
      refine ⟨⟨k + 1, hlt, rfl, ⟨by rw [HD.out]; rw [HL.out] at hown; exact hown⟩, ⟨(HB.out.alloc (by omega) _).grown hgr' (by simp; omega) (own_base HO.out)⟩, ⟨?_⟩⟩, by simp only [intOf]; omega⟩
      have hlt1 : W.heap.size < wr.heap.size := (Array.getElem?_eq_some_iff.1 HX.out).1
      exact (hgr'.block _ (by simp; omega) (own_ne HO.out HX.out (by decide))).trans ((Below.heap_alloc _ _ _ hlt1).trans HX.out)
    · have hk' : k = acts.length := by omega
      subst hk'
      rw [List.take_of_length_le (by simp [los])] at HO
      obtain ⟨g, cap, hv4, hg0, hg1⟩ : ∃ g cap, u4 = .slice (some ⟨g, 0, none⟩) acts.length cap ∧ W.heap.size ≤ g ∧ g < wr.heap.size := by
        rcases HO.out.2 with ⟨_, h⟩ | ⟨g, cap, cur, h, hb, hc, _⟩
        · omega
        · exact ⟨g, cap, h, hb, (Array.getElem?_eq_some_iff.1 hc).1⟩
      subst hv4
      have hs0 : (sets acts)[0]? = some (los acts) := by
        rw [← List.head?_eq_getElem?]; exact (sets_ok acts (fun a ha => (HIN.out a ha).2.1)).2
      have HS0 := Aside0.mk hs0
      have HJ := Aside0.mk (HJ0.out g wr hg0 hg1 HB.out)
      have HG0 := Aside0.mk hg0
      obtain ⟨n1, hn1⟩ : ∃ n1, n1 = wr.heap.size := ⟨_, rfl⟩
      have HG1 : Aside0 (g < n1) := ⟨by omega⟩
      have HN1 := Aside0.mk hn1
      clear hs0 hg0 hg1 hlt hk hn1
      gi_wp2
      gi_loopw [7] (fun v7 W1 => ∃ (i : Nat) (xs : List Int), Aside0 ((sets acts)[i]? = some xs) ∧ Aside0 (J g i W1) ∧ Aside0 (W1.ownsRow W.heap.size 3 1 (.slice (some ⟨g, 0, none⟩) acts.length cap) acts.length (nums .i64 xs)) ∧ Aside0 (W1.heap[W.heap.size]? = some (.cells #[.slice A0 nt c0, .slice A1 acts.length c1] 81 (0, 0))) ∧ Aside0 (n1 ≤ W1.heap.size)) (fun _ W1 => more acts (sets acts).length (rdrow W1 g acts.length))
      case atStart => exact ⟨0, _, HS0, HJ, HO, HX, ⟨Nat.le_of_eq HN1.out⟩⟩
      case round =>
        obtain ⟨i, xs, HI, HJi, HOi, HXi, HSi⟩ := hrel
        have hR := HY.out g n1 i _ cap xs HG0.out HG1.out HSi.out HI.out HJi.out HOi.out
        obtain ⟨fn, tmps, assign, body, hy, hR⟩ := hR
        have HM : Aside0 (more acts (sets acts).length (rdrow wr g acts.length) = more acts (sets acts).length xs) := ⟨by rw [rdrow_own HOi.out]⟩
        have HF := Aside0.mk ((mem_sets acts xs).1 (List.mem_of_getElem? HI.out))
        have HXL := Aside0.mk HF.out.length
        gi_wp2
        refine hR.mono ?_
        rintro e W2 (⟨rfl, hJ2, hs2, hk2⟩ | ⟨rfl, hJx⟩)
        · have HO2 := Aside0.mk (own_move HOi.out (w1 := W2) (fun k hk => by
            have : g = k := by simpa [Value.ownBlock] using hk
            subst this
            exact hk2 _ HG0.out HG1.out))
          have HX2 : Aside0 (W2.heap[W.heap.size]? = some (.cells #[.slice A0 nt c0, .slice A1 acts.length c1] 81 (0, 0))) := ⟨by
            have := HG1.out; have := HG0.out
            rw [hk2 _ (Nat.le_refl _) (by omega)]; exact HXi.out⟩
          have HS2 := Aside0.mk hs2
          have HJ2 := Aside0.mk hJ2
          clear hy hR hs2 hJ2 hk2 HOi HXi HSi HJi
          gi_wp2
          gi_loopw [7] (fun v7 W3 => ∃ j : Nat, j ≤ acts.length ∧ v7 = .int .i64 ((j : Int) - 1) ∧ Aside0 (xs.drop j = (his acts).drop j) ∧ Aside0 (W3.ownsRow W.heap.size 3 1 (.slice (some ⟨g, 0, none⟩) acts.length cap) acts.length (nums .i64 (xs.take j ++ (los acts).drop j))) ∧ Aside0 (J g (i + 1) W3) ∧ Aside0 (W3.heap[W.heap.size]? = some (.cells #[.slice A0 nt c0, .slice A1 acts.length c1] 81 (0, 0))) ∧ Aside0 (n1 ≤ W3.heap.size)) (fun v7 _ => (intOf v7 + 1).toNat)
          case atStart => exact ⟨acts.length, Nat.le_refl _, by first | rfl | (congr 1; omega) | skip, ⟨by rw [List.drop_of_length_le (by rw [HXL.out]; omega), List.drop_of_length_le (by simp [his])]⟩, ⟨by rw [List.take_of_length_le (by rw [HXL.out]; omega), List.drop_of_length_le (by simp [los]), List.append_nil]; exact HO2.out⟩, HJ2, HX2, HS2⟩
          case round =>
            obtain ⟨j, hj, rfl, HD, HOj, HJj, HXj, HSj⟩ := hrel
            obtain _ | j := j
            · gi_wp2
              refine wpIn_wide.2 ?_
              refine wp_region_held_drew (S := (fun w' => w' = wr.drew)) (by kernel_rfl) ?_ (fun hHeld => ?_)
              · rfl
              refine takeT (i := 0) (d := 30) (v := ?_) rfl rfl (by kernel_rfl) (by kernel_rfl) (by kernel_rfl) (fun _ _ _ h => h) (Or.inl ⟨rfl, fun w hSw => ?_⟩) (by assumption) ?_
              rotate_left
              · (try dsimp only at hSw); simp only [List.getElem_toArray, List.getElem_cons_zero, List.getElem_cons_succ]; go_simp <;> with_reducible rfl
              simp only [List.setIfInBounds_toArray, List.set_cons_zero, List.set_cons_succ]
              refine takeT (i := 1) (d := 31) (v := ?_) rfl rfl (by kernel_rfl) (by kernel_rfl) (by kernel_rfl) (fun _ _ _ h => h) (Or.inl ⟨rfl, fun w hSw => ?_⟩) (by assumption) ?_
              rotate_left
              · (try dsimp only at hSw); simp only [List.getElem_toArray, List.getElem_cons_zero, List.getElem_cons_succ]; go_simp <;> with_reducible rfl
              simp only [List.setIfInBounds_toArray, List.set_cons_zero, List.set_cons_succ]
              refine takeT (i := 2) (d := 32) (v := ?_) rfl rfl (by kernel_rfl) (by kernel_rfl) (by kernel_rfl) (fun _ _ _ h => h) (Or.inl ⟨rfl, fun w hSw => ?_⟩) (by assumption) ?_
              rotate_left
              · (try dsimp only at hSw); simp only [List.getElem_toArray, List.getElem_cons_zero, List.getElem_cons_succ]; go_simp <;> with_reducible rfl
              simp only [List.setIfInBounds_toArray, List.set_cons_zero, List.set_cons_succ]
              refine takeT (i := 3) (d := 33) (v := undef) rfl rfl (by kernel_rfl) (by kernel_rfl) (by kernel_rfl) (fun _ _ _ h => h) (Or.inr ⟨rfl, rfl⟩) (by assumption) ?_
              simp only [List.setIfInBounds_toArray, List.set_cons_zero, List.set_cons_succ]
              refine takeT (i := 4) (d := 34) (v := undef) rfl rfl (by kernel_rfl) (by kernel_rfl) (by kernel_rfl) (fun _ _ _ h => h) (Or.inr ⟨rfl, rfl⟩) (by assumption) ?_
              simp only [List.setIfInBounds_toArray, List.set_cons_zero, List.set_cons_succ]
              refine takeT (i := 5) (d := 35) (v := undef) rfl rfl (by kernel_rfl) (by kernel_rfl) (by kernel_rfl) (fun _ _ _ h => h) (Or.inr ⟨rfl, rfl⟩) (by assumption) ?_
              simp only [List.setIfInBounds_toArray, List.set_cons_zero, List.set_cons_succ]
              refine takeT (i := 6) (d := 36) (v := undef) rfl rfl (by kernel_rfl) (by kernel_rfl) (by kernel_rfl) (fun _ _ _ h => h) (Or.inr ⟨rfl, rfl⟩) (by assumption) ?_
              simp only [List.setIfInBounds_toArray, List.set_cons_zero, List.set_cons_succ]
              refine takeT (i := 7) (d := 37) (v := undef) rfl rfl (by kernel_rfl) (by kernel_rfl) (by kernel_rfl) (fun _ _ _ h => h) (Or.inr ⟨rfl, rfl⟩) (by assumption) ?_
              simp only [List.setIfInBounds_toArray, List.set_cons_zero, List.set_cons_succ]
              refine takeT (i := 8) (d := 38) (v := undef) rfl rfl (by kernel_rfl) (by kernel_rfl) (by kernel_rfl) (fun _ _ _ h => h) (Or.inr ⟨rfl, rfl⟩) (by assumption) ?_
              simp only [List.setIfInBounds_toArray, List.set_cons_zero, List.set_cons_succ]
              refine takeT (i := 9) (d := 39) (v := undef) rfl rfl (by kernel_rfl) (by kernel_rfl) (by kernel_rfl) (fun _ _ _ h => h) (Or.inr ⟨rfl, rfl⟩) (by assumption) ?_
              simp only [List.setIfInBounds_toArray, List.set_cons_zero, List.set_cons_succ]
              refine takeT (i := 10) (d := 40) (v := undef) rfl rfl (by kernel_rfl) (by kernel_rfl) (by kernel_rfl) (fun _ _ _ h => h) (Or.inr ⟨rfl, rfl⟩) (by assumption) ?_
              simp only [List.setIfInBounds_toArray, List.set_cons_zero, List.set_cons_succ]
              refine takeT (i := 11) (d := 41) (v := undef) rfl rfl (by kernel_rfl) (by kernel_rfl) (by kernel_rfl) (fun _ _ _ h => h) (Or.inr ⟨rfl, rfl⟩) (by assumption) ?_
              simp only [List.setIfInBounds_toArray, List.set_cons_zero, List.set_cons_succ]
              refine takeT (i := 12) (d := 42) (v := undef) rfl rfl (by kernel_rfl) (by kernel_rfl) (by kernel_rfl) (fun _ _ _ h => h) (Or.inr ⟨rfl, rfl⟩) (by assumption) ?_
              simp only [List.setIfInBounds_toArray, List.set_cons_zero, List.set_cons_succ]
              refine takeT (i := 13) (d := 43) (v := undef) rfl rfl (by kernel_rfl) (by kernel_rfl) (by kernel_rfl) (fun _ _ _ h => h) (Or.inr ⟨rfl, rfl⟩) (by assumption) ?_
              simp only [List.setIfInBounds_toArray, List.set_cons_zero, List.set_cons_succ]
              refine takeT (i := 14) (d := 44) (v := undef) rfl rfl (by kernel_rfl) (by kernel_rfl) (by kernel_rfl) (fun _ _ _ h => h) (Or.inr ⟨rfl, rfl⟩) (by assumption) ?_
              simp only [List.setIfInBounds_toArray, List.set_cons_zero, List.set_cons_succ]
              refine takeT (i := 15) (d := 45) (v := undef) rfl rfl (by kernel_rfl) (by kernel_rfl) (by kernel_rfl) (fun _ _ _ h => h) (Or.inr ⟨rfl, rfl⟩) (by assumption) ?_
              simp only [List.setIfInBounds_toArray, List.set_cons_zero, List.set_cons_succ]
              refine takeT (i := 16) (d := 46) (v := ?_) rfl rfl (by kernel_rfl) (by kernel_rfl) (by kernel_rfl) (fun _ _ _ h => h) (Or.inl ⟨rfl, fun w hSw => ?_⟩) (by assumption) ?_
              rotate_left
              · (try dsimp only at hSw); simp only [List.getElem_toArray, List.getElem_cons_zero, List.getElem_cons_succ]; go_simp <;> with_reducible rfl
              simp only [List.setIfInBounds_toArray, List.set_cons_zero, List.set_cons_succ]
              refine wpAnyH_done (by kernel_rfl) ?_ _
              gi_wp2
              refine bodyPost_ret (results_none rfl _ _ _) rfl ?_
              have e1 : xs = his acts := HD.out
              have e2 := (sets_ok acts (fun a ha => (HIN.out a ha).2.1)).1.at i xs HI.out
              rw [e1, succ_none] at e2
              have e3 := List.getElem?_eq_none_iff.1 e2.symm
              have e4 := (List.getElem?_eq_some_iff.1 HI.out).1
              have e5 : i + 1 = (sets acts).length := by omega
              exact ⟨⟨_, rfl⟩, .inl ⟨g, e5 ▸ HJD.out _ _ _ HJj.out⟩⟩
            · have hjl : j < acts.length := hj
              obtain ⟨ad, A2, c2, e, hx0, hx1, hx2, hl2, hi2⟩ := at_T39 (HJC.out _ _ _ HJj.out) (j : Int) (by omega) (by omega)
              subst e
              simp only [Int.toNat_natCast] at hx0 hx1 hx2
              clear hx2 hi2
              have hcj := (own_at HOj.out (j : Int) (by omega) (by omega)).1
              simp only [Int.toNat_natCast] at hcj
              generalize hx : rd (xs.take (j + 1) ++ (los acts).drop (j + 1)) (j : Int) = x at hcj
              generalize hy : (rd_T39 acts (j : Int)).f0.f1 = y at hx1
              generalize hz : (rd_T39 acts (j : Int)).f0.f0 = z at hx0
              have haj : acts[j]? = some (rd_T39 acts (j : Int)) := by simp [rd_T39, List.getD_eq_getElem?_getD, hjl]
              have hxj : xs[j]? = some x := get_row xs _ j x (by rw [HXL.out]; exact hjl) hx
              have hgb : W.heap.size ≠ g := fun e => own_ne HOj.out HXj.out (by decide) (by simp [Value.ownBlock, e])
              have hfz := (own_at HOj.out (j : Int) (by omega) (by omega)).2
              simp only [Int.toNat_natCast] at hfz
              have hb0 : wr.cell? ⟨W.heap.size, 0, none⟩ = some (.slice A0 nt c0) := by simp [World.cell?, HXj.out]
              have hb1 : wr.cell? ⟨W.heap.size, 1, none⟩ = some (.slice (some ad) acts.length c1) := by simp [World.cell?, HXj.out]
              gi_wp2
              refine wpIn_wide.2 ?_
              refine wp_region_held_drew (S := (fun w' => w'.cell? ⟨g, j, none⟩ = some (.int .i64 x) ∧ w'.cell? ⟨W.heap.size, 0, none⟩ = some (.slice A0 nt c0) ∧ w'.cell? ⟨W.heap.size, 1, none⟩ = some (.slice (some ad) acts.length c1) ∧ w'.cell? ⟨(ad.add (j * 3)).block, (ad.add (j * 3)).off + 1, none⟩ = some (.int .i64 y))) (by kernel_rfl) ?_ (fun hHeld => ?_)
              · exact ⟨hcj, hb0, hb1, hx1⟩
              refine takeT (i := 0) (d := 30) (v := ?_) rfl rfl (by kernel_rfl) (by kernel_rfl) (by kernel_rfl) (fun _ _ _ h => h) (Or.inl ⟨rfl, fun w hSw => ?_⟩) (by assumption) ?_
              rotate_left
              · (try dsimp only at hSw); simp only [List.getElem_toArray, List.getElem_cons_zero, List.getElem_cons_succ]; go_simp <;> with_reducible rfl
              simp only [List.setIfInBounds_toArray, List.set_cons_zero, List.set_cons_succ]
              refine takeT (i := 1) (d := 31) (v := ?_) rfl rfl (by kernel_rfl) (by kernel_rfl) (by kernel_rfl) (fun _ _ _ h => h) (Or.inl ⟨rfl, fun w hSw => ?_⟩) (by assumption) ?_
              rotate_left
              · (try dsimp only at hSw); simp only [List.getElem_toArray, List.getElem_cons_zero, List.getElem_cons_succ]; go_simp <;> with_reducible rfl
              simp only [List.setIfInBounds_toArray, List.set_cons_zero, List.set_cons_succ]
              refine takeT (i := 2) (d := 32) (v := ?_) rfl rfl (by kernel_rfl) (by kernel_rfl) (by kernel_rfl) (fun _ _ _ h => h) (Or.inl ⟨rfl, fun w hSw => ?_⟩) (by assumption) ?_
              rotate_left
              · (try dsimp only at hSw); simp only [List.getElem_toArray, List.getElem_cons_zero, List.getElem_cons_succ]; go_simp <;> with_reducible rfl
              simp only [List.setIfInBounds_toArray, List.set_cons_zero, List.set_cons_succ]
              refine takeT (i := 3) (d := 33) (v := ?_) rfl rfl (by kernel_rfl) (by kernel_rfl) (by kernel_rfl) (fun _ _ _ h => h) (Or.inl ⟨rfl, fun w hSw => ?_⟩) (by assumption) ?_
              rotate_left
              · (try dsimp only at hSw); simp only [List.getElem_toArray, List.getElem_cons_zero, List.getElem_cons_succ]; go_simp <;> with_reducible rfl
              simp only [List.setIfInBounds_toArray, List.set_cons_zero, List.set_cons_succ]
              refine takeT (i := 4) (d := 34) (v := ?_) rfl rfl (by kernel_rfl) (by kernel_rfl) (by kernel_rfl) (fun _ _ _ h => h) (Or.inl ⟨rfl, fun w hSw => ?_⟩) (by assumption) ?_
              rotate_left
              · (try dsimp only at hSw); simp only [List.getElem_toArray, List.getElem_cons_zero, List.getElem_cons_succ]; go_simp <;> with_reducible rfl
              simp only [List.setIfInBounds_toArray, List.set_cons_zero, List.set_cons_succ]
              refine takeT (i := 5) (d := 35) (v := ?_) rfl rfl (by kernel_rfl) (by kernel_rfl) (by kernel_rfl) (fun _ _ _ h => h) (Or.inl ⟨rfl, fun w hSw => ?_⟩) (by assumption) ?_
              rotate_left
              · (try dsimp only at hSw); simp only [List.getElem_toArray, List.getElem_cons_zero, List.getElem_cons_succ]; go_simp <;> with_reducible rfl
              simp only [List.setIfInBounds_toArray, List.set_cons_zero, List.set_cons_succ]
              refine takeT (i := 6) (d := 36) (v := ?_) rfl rfl (by kernel_rfl) (by kernel_rfl) (by kernel_rfl) (fun _ _ _ h => h) (Or.inl ⟨rfl, fun w hSw => ?_⟩) (by assumption) ?_
              rotate_left
              · (try dsimp only at hSw); simp only [List.getElem_toArray, List.getElem_cons_zero, List.getElem_cons_succ]; go_simp <;> with_reducible rfl
              simp only [List.setIfInBounds_toArray, List.set_cons_zero, List.set_cons_succ]
              refine takeT (i := 7) (d := 37) (v := ?_) rfl rfl (by kernel_rfl) (by kernel_rfl) (by kernel_rfl) (fun _ _ _ h => h) (Or.inl ⟨rfl, fun w hSw => ?_⟩) (by assumption) ?_
              rotate_left
              · (try dsimp only at hSw); simp only [List.getElem_toArray, List.getElem_cons_zero, List.getElem_cons_succ]; go_simp <;> with_reducible rfl
              simp only [List.setIfInBounds_toArray, List.set_cons_zero, List.set_cons_succ]
              refine takeT (i := 8) (d := 38) (v := ?_) rfl rfl (by kernel_rfl) (by kernel_rfl) (by kernel_rfl) (fun _ _ _ h => h) (Or.inl ⟨rfl, fun w hSw => ?_⟩) (by assumption) ?_
              rotate_left
              · (try dsimp only at hSw); simp only [List.getElem_toArray, List.getElem_cons_zero, List.getElem_cons_succ]; go_simp <;> with_reducible rfl
              simp only [List.setIfInBounds_toArray, List.set_cons_zero, List.set_cons_succ]
              refine takeT (i := 9) (d := 39) (v := ?_) rfl rfl (by kernel_rfl) (by kernel_rfl) (by kernel_rfl) (fun _ _ _ h => h) (Or.inl ⟨rfl, fun w hSw => ?_⟩) (by assumption) ?_
              rotate_left
              · (try dsimp only at hSw); simp only [List.getElem_toArray, List.getElem_cons_zero, List.getElem_cons_succ]; go_simp <;> with_reducible rfl
              simp only [List.setIfInBounds_toArray, List.set_cons_zero, List.set_cons_succ]
              refine takeT (i := 10) (d := 40) (v := ?_) rfl rfl (by kernel_rfl) (by kernel_rfl) (by kernel_rfl) (fun _ _ _ h => h) (Or.inl ⟨rfl, fun w hSw => ?_⟩) (by assumption) ?_
              rotate_left
              · (try dsimp only at hSw); simp only [List.getElem_toArray, List.getElem_cons_zero, List.getElem_cons_succ]; go_simp <;> with_reducible rfl
              simp only [List.setIfInBounds_toArray, List.set_cons_zero, List.set_cons_succ]
              refine takeT (i := 11) (d := 41) (v := ?_) rfl rfl (by kernel_rfl) (by kernel_rfl) (by kernel_rfl) (fun _ _ _ h => h) (Or.inl ⟨rfl, fun w hSw => ?_⟩) (by assumption) ?_
              rotate_left
              · (try dsimp only at hSw); simp only [List.getElem_toArray, List.getElem_cons_zero, List.getElem_cons_succ]; go_simp <;> with_reducible rfl
              simp only [List.setIfInBounds_toArray, List.set_cons_zero, List.set_cons_succ]
              refine takeT (i := 12) (d := 42) (v := ?_) rfl rfl (by kernel_rfl) (by kernel_rfl) (by kernel_rfl) (fun _ _ _ h => h) (Or.inl ⟨rfl, fun w hSw => ?_⟩) (by assumption) ?_
              rotate_left
              · (try dsimp only at hSw); simp only [List.getElem_toArray, List.getElem_cons_zero, List.getElem_cons_succ]; go_simp <;> with_reducible rfl
              simp only [List.setIfInBounds_toArray, List.set_cons_zero, List.set_cons_succ]
              refine takeT (i := 13) (d := 43) (v := ?_) rfl rfl (by kernel_rfl) (by kernel_rfl) (by kernel_rfl) (fun _ _ _ h => h) (Or.inl ⟨rfl, fun w hSw => ?_⟩) (by assumption) ?_
              rotate_left
              · (try dsimp only at hSw); simp only [List.getElem_toArray, List.getElem_cons_zero, List.getElem_cons_succ]; go_simp <;> with_reducible rfl
              simp only [List.setIfInBounds_toArray, List.set_cons_zero, List.set_cons_succ]
              refine takeT (i := 14) (d := 44) (v := ?_) rfl rfl (by kernel_rfl) (by kernel_rfl) (by kernel_rfl) (fun _ _ _ h => h) (Or.inl ⟨rfl, fun w hSw => ?_⟩) (by assumption) ?_
              rotate_left
              · (try dsimp only at hSw); simp only [List.getElem_toArray, List.getElem_cons_zero, List.getElem_cons_succ]; go_simp <;> with_reducible rfl
              simp only [List.setIfInBounds_toArray, List.set_cons_zero, List.set_cons_succ]
              refine takeT (i := 15) (d := 45) (v := ?_) rfl rfl (by kernel_rfl) (by kernel_rfl) (by kernel_rfl) (fun _ _ _ h => h) (Or.inl ⟨rfl, fun w hSw => ?_⟩) (by assumption) ?_
              rotate_left
              · (try dsimp only at hSw); simp only [List.getElem_toArray, List.getElem_cons_zero, List.getElem_cons_succ]; go_simp <;> with_reducible rfl
              simp only [List.setIfInBounds_toArray, List.set_cons_zero, List.set_cons_succ]
              refine takeT (i := 16) (d := 46) (v := ?_) rfl rfl (by kernel_rfl) (by kernel_rfl) (by kernel_rfl) (fun _ _ _ h => h) (Or.inl ⟨rfl, fun w hSw => ?_⟩) (by assumption) ?_
              rotate_left
              · (try dsimp only at hSw); simp only [List.getElem_toArray, List.getElem_cons_zero, List.getElem_cons_succ]; go_simp <;> with_reducible rfl
              simp only [List.setIfInBounds_toArray, List.set_cons_zero, List.set_cons_succ]
              refine wpAnyH_done (by kernel_rfl) ?_ _
              have hlj : (((j + 1 : Nat) : Int) - 1) = (j : Int) := by omega
              have hj0 : ¬ ((j : Int) < 0) := by omega
              clear hHeld
              have hfd : wr.drew.frozen? ⟨g, j, none⟩ = false := hfz
              have hcd : wr.drew.cell? ⟨g, j, none⟩ = some (.int .i64 x) := hcj
              by_cases hxy : x = y
              · have hb : (x == y) = true := by simpa using hxy
                gi_wp2
                have hst := own_store HOj.out (j : Int) z
                simp only [Int.toNat_natCast] at hst
                rw [set_row xs _ j x z hxj] at hst
                refine ⟨⟨j, by omega, rfl, ⟨?_⟩, ⟨?_⟩, ⟨HJD.out _ _ _ (HJS.out _ _ _ _ _ HG0.out HJj.out)⟩, ⟨?_⟩, ⟨Nat.le_trans HSj.out (KeepsWalks.setCell wr _ _).size⟩⟩, by simp only [intOf]; omega⟩
                · rw [drop_get xs j x hxj, drop_get (his acts) j y (by simp [his, haj, ← hy]), HD.out, hxy]
                · rw [drop_get (los acts) j z (by simp [los, haj, ← hz])]
                  exact own_move hst.1 (fun _ _ => rfl)
                · exact (Below.heap_setCell _ _ _ _ hgb).trans HXj.out
              · have hb : (x == y) = false := by simpa using hxy
                gi_wp2
                have hst := own_store HOj.out (j : Int) (wrap64 (x + 1))
                simp only [Int.toNat_natCast] at hst
                rw [set_row xs _ j x _ hxj] at hst
                have hbd := HF.out.get j _ x haj hxj
                have hin := HIN.out _ (List.mem_of_getElem? haj)
                rw [hy] at hbd hin
                rw [show wrap64 (x + 1) = x + 1 from by unfold wrap64; omega] at hst ⊢
                have hlk := (sets_ok acts (fun a ha => (HIN.out a ha).2.1)).1.at
                have hsc := succ_some acts xs j _ x HXL.out haj hxj HD.out (by rw [hy]; exact hxy)
                have hnx := hlk i xs HI.out
                rw [hsc] at hnx
                have hst2 : (wr.setCell ⟨g, j, none⟩ (.int .i64 (x + 1))).drew.ownsRow W.heap.size 3 1 (.slice (some ⟨g, 0, none⟩) acts.length cap) acts.length (nums .i64 (xs.take j ++ (x + 1) :: (los acts).drop (j + 1))) := own_move hst.1 (fun _ _ => rfl)
                refine ⟨⟨i + 1, _, ⟨hnx.symm⟩, ⟨HJD.out _ _ _ (HJS.out _ _ _ _ _ HG0.out HJj.out)⟩, ⟨hst2⟩, ⟨?_⟩, ⟨?_⟩⟩, ?_⟩
                · exact (Below.heap_setCell _ _ _ _ hgb).trans HXj.out
                · exact Nat.le_trans HSj.out (KeepsWalks.setCell wr _ _).size
                · rw [rdrow_own hst2, HM.out, more_at acts _ hlk _ i xs HI.out (by omega), more_at acts _ hlk _ (i + 1) _ hnx.symm (by omega)]
                  have := (List.getElem?_eq_some_iff.1 hnx.symm).1
                  omega
        · gi_wp2
          refine bodyPost_ret (results_none rfl _ _ _) rfl ?_
          exact ⟨⟨_, rfl⟩, .inr hJx⟩
end Go.Proofs.Ytbijfhmpafjceaa.E
