import Derived.Test.YtbijfhmpafjceaaE15
import Derived.Test.YtbijfhmpafjceaaK3
set_option linter.unusedSimpArgs false
set_option linter.unusedVariables false
namespace Go.Proofs.Ytbijfhmpafjceaa.E
open Go.RowKit Go.Proofs.YtbijfhmpafjceaaW.PrintWords Go.Proofs.YtbijfhmpafjceaaW.PrintMore Go.Proofs.Ytbijfhmpafjceaa.PFlatKept

/-! BoundOf. -/
theorem fst1_two {x y : Int} (h : fst1 [x, y] = 0) : x = 0 ∧ y = 0 := by
  simp only [fst1] at h
  split at h <;> simp_all
theorem zero1 (x : Int) (w : World) : Calls Try.prog 81 #[.int .i64 x] w fun e w' => e = .returned (.bool (x == 0)) ∧ w = w' := by
  go_enter Try.func81, Try.ntmps81
  go_wp2
  go_ret
  exact ⟨rfl, rfl⟩
theorem eg81 : ∀ args w, (callFunc 81 args).run Try.prog w = .ok (.enter 81 args) w := enters_of Try.func81 (by kernel_rfl) rfl
theorem pred_zero (w : World) : Pred 81 #[] (· == 0) w := fun W x _ => zero1 x W
def bndE (t : List Int) (acts : List S39) (ws : List Int) : Int := fst1 [(rulesE t acts).2, unl ((ws.length : Int) == t.length) 10, unl (ws.all (sml 1000)) 2, unl (!(unl (ws.all (· == 0)) 11 == 0)) 11]
/-! The sums. -/
theorem mul_bnd {x y a b : Int} (hx : -a ≤ x ∧ x ≤ a) (hy : -b ≤ y ∧ y ≤ b) : -(a * b) ≤ x * y ∧ x * y ≤ a * b := by
  have h1 : x.natAbs ≤ a.natAbs := by omega
  have h2 : y.natAbs ≤ b.natAbs := by omega
  have h3 := Nat.mul_le_mul h1 h2
  rw [← Int.natAbs_mul, ← Int.natAbs_mul] at h3
  have h4 : 0 ≤ a * b := Int.mul_nonneg (by omega) (by omega)
  omega
def dotN (f : List Int) (ws : List Int) : Nat → Int
  | 0 => 0
  | k + 1 => dotN f ws k + ws.getD k 0 * f.getD k 0
def denN (ws : List Int) : Nat → Int
  | 0 => 0
  | k + 1 => denN ws k + sz (ws.getD k 0)
def actN (ws : List Int) (n : Nat) : List S39 → Int → Int
  | [], x => x
  | a :: ar, x => actN ws n ar (x - mx (dotN a.f1 ws n * a.f0.f0) (dotN a.f1 ws n * a.f0.f1))
def bndN (t : List Int) (acts : List S39) (ws : List Int) : Int := actN ws ws.length acts (dotN t ws ws.length)
theorem dotN_bnd {f ws : List Int} {b : Int} (hw : ∀ x ∈ ws, -1000 ≤ x ∧ x ≤ 1000) (hf : ∀ x ∈ f, -b ≤ x ∧ x ≤ b) (hb : 0 ≤ b) : ∀ k : Nat, -(k * (1000 * b)) ≤ dotN f ws k ∧ dotN f ws k ≤ k * (1000 * b)
  | 0 => by simp [dotN]
  | k + 1 => by
    have ih := dotN_bnd hw hf hb k
    have h1 : -1000 ≤ ws.getD k 0 ∧ ws.getD k 0 ≤ 1000 := by
      rw [List.getD_eq_getElem?_getD]
      cases hq : ws[k]? with
      | none => simp
      | some z => exact hw z (List.mem_of_getElem? hq)
    have h2 : -b ≤ f.getD k 0 ∧ f.getD k 0 ≤ b := by
      rw [List.getD_eq_getElem?_getD]
      cases hq : f[k]? with
      | none => simp; omega
      | some z => exact hf z (List.mem_of_getElem? hq)
    have h3 := mul_bnd h1 h2
    have e : ((k + 1 : Nat) : Int) * (1000 * b) = k * (1000 * b) + 1000 * b := by rw [Int.natCast_succ, Int.add_mul, Int.one_mul]
    simp only [dotN]
    rw [e]
    omega
theorem denN_bnd {ws : List Int} (hw : ∀ x ∈ ws, -1000 ≤ x ∧ x ≤ 1000) : ∀ k : Nat, 0 ≤ denN ws k ∧ denN ws k ≤ k * 1000
  | 0 => by simp [denN]
  | k + 1 => by
    have ih := denN_bnd hw k
    have h1 : -1000 ≤ ws.getD k 0 ∧ ws.getD k 0 ≤ 1000 := by
      rw [List.getD_eq_getElem?_getD]
      cases hq : ws[k]? with
      | none => simp
      | some z => exact hw z (List.mem_of_getElem? hq)
    simp only [denN, sz, mx]
    omega
theorem getD_bnd {l : List Int} {b : Int} (h : ∀ x ∈ l, -b ≤ x ∧ x ≤ b) (k : Nat) (hb : 0 ≤ b := by decide) : -b ≤ l.getD k 0 ∧ l.getD k 0 ≤ b := by
  rw [List.getD_eq_getElem?_getD]
  cases hq : l[k]? with
  | none => simp; omega
  | some z => exact h z (List.mem_of_getElem? hq)
theorem meas_step {k n : Nat} {z : Int} (hz : z = ((k + 1 : Nat) : Int)) (h : k < n) : n - (intOf (.int .i64 z)).toNat < n - (intOf (.int .i64 (k : Int))).toNat := by subst hz; simp only [intOf]; omega
theorem wk_step {k : Nat} (h : k < 9) : wrap64 ((k : Int) + 1) = ((k + 1 : Nat) : Int) := by unfold wrap64; omega
structure GoodW (t : List Int) (acts : List S39) (ws : List Int) : Prop where
  g : Good t acts
  l : ws.length = t.length
  w : ∀ x ∈ ws, -1000 ≤ x ∧ x ≤ 1000
  z : ∃ x ∈ ws, x ≠ 0
theorem bndE_zero (t : List Int) (acts : List S39) (ws : List Int) : bndE t acts ws = 0 ↔ GoodW t acts ws := by
  unfold bndE
  have h0 : ∀ x l, fst1 (x :: l) = 0 ↔ x = 0 ∧ fst1 l = 0 := fun x l => by simp only [fst1]; split <;> simp_all
  rw [h0, fst1_unl _ _ (by decide), fst1_unl _ _ (by decide), fst1_unl _ _ (by decide), rulesE_zero]
  simp only [fst1, and_true, beq_iff_eq, List.all_eq_true, sml, Bool.and_eq_true, decide_eq_true_eq, Bool.not_eq_true']
  constructor
  · rintro ⟨h1, h2, h3, h4⟩
    refine ⟨h1, by omega, h3, ?_⟩
    cases hb : ws.all (fun x => x == 0) with
    | true => rw [hb] at h4; simp [unl] at h4
    | false =>
      rw [List.all_eq_false] at hb
      obtain ⟨x, hx, hn⟩ := hb
      exact ⟨x, hx, by simpa using hn⟩
  · rintro ⟨h1, h2, h3, x, hx, hn⟩
    refine ⟨h1, by omega, h3, ?_⟩
    have hb : ws.all (fun x => x == 0) = false := List.all_eq_false.2 ⟨x, hx, by simpa using hn⟩
    rw [hb]; rfl
theorem size_at (x : Int) (w : World) (h : -1000000 ≤ x) (h' : x ≤ 1000000) : Calls Try.prog 84 #[.int .i64 x] w fun e w' => e = .returned (.int .i64 (sz x)) ∧ w = w' := by
  by_cases c : x < -x
  · have HS : Aside0 (sz x = -x) := ⟨by simp only [sz, mx]; rw [if_pos c]⟩
    go_enter Try.func84, Try.ntmps84
    go_wp2
    go_ret
    exact ⟨by rw [HS.out]; rfl, rfl⟩
  · have HS : Aside0 (sz x = x) := ⟨by simp only [sz, mx]; rw [if_neg c]⟩
    have c2 : -x ≤ x := by omega
    go_enter Try.func84, Try.ntmps84
    go_wp2
    go_ret
    exact ⟨by rw [HS.out]; rfl, rfl⟩

set_option maxRecDepth 100000 in
set_option maxHeartbeats 1200000 in
theorem BoundOf_bad (A0 A1 A2 : Option Addr) (c0 c1 c2 : Nat) (t : List Int) (acts : List S39) (ws : List Int) (w : World) (hr0 : Kd.C (Kd.int .i64) w A0 t.length t) (hr1 : Kd.C k39 w A1 acts.length acts) (hc1 : acts.length ≤ c1) (hr2 : Kd.C (Kd.int .i64) w A2 ws.length ws) (hz : bndE t acts ws ≠ 0) :
    Calls Try.prog 27 #[.agg #[.slice A0 t.length c0, .slice A1 acts.length c1], .slice A2 ws.length c2] w fun e w' => e = .returned (.tuple #[.agg #[.int .i64 0, .int .i64 0], .int .i64 (bndE t acts ws)]) ∧ Below w.heap.size w w' := by
  have HX := Aside0.mk (fun W (hW : Below w.heap.size w W) => CheckRules_any A0 A1 c0 c1 t acts W (Kd.C_below hr0 hW) (Kd.C_below hr1 hW) hc1)
  have HR2 := Aside0.mk hr2
  have SZ := Aside0.mk (fun W => sized_any 1000 W (by decide) (by decide))
  have hl := Kd.C_max hr0
  have hl2 := Kd.C_max hr2
  clear hr0 hr1 hr2
  have hu25 := Try.underlying25
  have hu69 := Try.underlying69
  generalize hE : bndE t acts ws = er at *
  have hz1 : (er == 0) = false := by simpa using hz
  have hz2 : (er != 0) = true := by simpa using hz
  have HE : Aside0 (fst1 [(rulesE t acts).2, unl ((ws.length : Int) == t.length) 10, unl (ws.all (sml 1000)) 2, unl (!(unl (ws.all (· == 0)) 11 == 0)) 11] = er) := ⟨hE⟩
  clear hE
  go_enter Try.func27, Try.ntmps27
  go_wp2_with (first | (go_at_call 79; refine (HX.out _ (by repeat (first | exact Below.refl _ _ | apply below_drew | apply below_alloc | apply pw_below_drewN))).mono ?_; rintro e w3 ⟨rfl, hb⟩; have hB : Below w.heap.size w w3 := (below_alloc (below_alloc (Below.refl _ _) _) _).trans (hb.mono (by simp; omega)); have q0 : w3.heap[w.heap.size]? = some (.cells #[.slice A0 t.length c0, .slice A1 acts.length c1] 25 (0, 0)) := blk_below (blk_alloc (blk_new w _) _) hb; have q1 : w3.heap[w.heap.size + 1]? = some (.cells #[.int .i64 0, .int .i64 0] 69 (0, 0)) := blk_below (by have := blk_new (w.alloc (.cells #[.slice A0 t.length c0, .slice A1 acts.length c1] 25)) (.cells #[.int .i64 0, .int .i64 0] 69); simp only [World.size_alloc] at this; exact this) hb; have ql : w.heap.size + 1 < w3.heap.size := (by have := hb.size; simp only [World.size_alloc] at this; omega); have ql0 : w.heap.size < w3.heap.size := (by omega); have k0 := blk_cell q0 0; have k1 := blk_cell q0 1; have k2 := blk_cell q1 0; have k3 := blk_cell q1 1; have f2 := blk_frozen q1 0; have f3 := blk_frozen q1 1) | (go_at_call 80; refine (all_any 81 #[] (· == 0) A2 c2 ws 11 _ (Kd.C_below HR2.out hB) (pred_zero _) eg81).mono ?_; rintro e w' ⟨rfl, rfl⟩))
  go_wp2_with (first | (go_at_call 42; refine (unless_any _ _ _).mono ?_; rintro e w' ⟨rfl, rfl⟩) | (go_at_call 83; refine (SZ.out _).mono ?_; rintro e w' ⟨rfl, rfl⟩) | (go_at_call 80; refine (all_any 128 _ (sml 1000) A2 c2 ws 2 _ (Kd.C_below HR2.out (by repeat (first | exact hB | exact Below.refl _ _ | apply below_drew | apply below_alloc))) (pred_sized 1000 _ (by decide) (by decide) _ (by simp) (by simp)) eg128).mono ?_; rintro e w' ⟨rfl, rfl⟩) | (go_at_call 82; refine (first4 _ _ _ _ _ _ (by simp)).mono ?_; rintro e w4 ⟨he, hq⟩; rw [HE.out] at he; subst he; have hB4 : Below w3.heap.size w3 w4 := (by obtain ⟨q, rfl⟩ := hq; exact pw_below_drewN (by repeat (first | exact Below.refl _ _ | apply below_drew | apply below_alloc)) _); clear hq; have p0 := blk_below q0 hB4; have p1 := blk_below q1 hB4; have pl := hB4.size; have pl1 : w.heap.size + 1 < w4.heap.size := (by omega); have pl0 : w.heap.size < w4.heap.size := (by omega); have h0 := blk_cell p0 0; have h1 := blk_cell p0 1; have h2 := blk_cell p1 0; have h3 := blk_cell p1 1; have g2 := blk_frozen p1 0; have g3 := blk_frozen p1 1))
  refine bodyPost_ret (results_ct rfl _ _ (w.heap.size + 1) 69 #[.int .i64 0, .int .i64 0] (0, 0) _ rfl (by
    refine blk_put (cs := #[.int .i64 0, .int .i64 0]) ?_ 1 _ rfl
    exact blk_put p1 0 _ rfl) Try.underlying69 rfl (by kernel_rfl)) rfl ?_
  exact ⟨rfl, below_set (below_set (hB.trans (hB4.mono (by omega))) (by omega)) (by omega)⟩

set_option maxRecDepth 100000 in
set_option maxHeartbeats 1200000 in
theorem BoundOf_good (A0 A1 A2 : Option Addr) (c0 c1 c2 : Nat) (t : List Int) (acts : List S39) (ws : List Int) (w : World) (hr0 : Kd.C (Kd.int .i64) w A0 t.length t) (hr1 : Kd.C k39 w A1 acts.length acts) (hc1 : acts.length ≤ c1) (hr2 : Kd.C (Kd.int .i64) w A2 ws.length ws) (hc0 : t.length ≤ c0) (hz : bndE t acts ws = 0) (k0_ : Nat) (n0_ d0_ e0_ : Int) (hf : flat_fraction.f k0_ (bndN t acts ws) (denN ws ws.length) = some (n0_, d0_, e0_)) :
    Calls Try.prog 27 #[.agg #[.slice A0 t.length c0, .slice A1 acts.length c1], .slice A2 ws.length c2] w fun e w' => e = .returned (.tuple #[.agg #[.int .i64 n0_, .int .i64 d0_], .int .i64 e0_]) ∧ Below w.heap.size w w' := by
  have HG := Aside0.mk ((bndE_zero t acts ws).1 hz)
  have HFR := Aside0.mk hf
  have HR0 := Aside0.mk hr0
  have HR1 := Aside0.mk hr1
  have HX := Aside0.mk (fun W (hW : Below w.heap.size w W) => CheckRules_any A0 A1 c0 c1 t acts W (Kd.C_below hr0 hW) (Kd.C_below hr1 hW) hc1)
  have HR2 := Aside0.mk hr2
  have SZ := Aside0.mk (fun W => sized_any 1000 W (by decide) (by decide))
  have hl := Kd.C_max hr0
  have hl2 := Kd.C_max hr2
  clear hr0 hr1 hr2
  have hu25 := Try.underlying25
  have hu69 := Try.underlying69
  have HE : Aside0 (fst1 [(rulesE t acts).2, unl ((ws.length : Int) == t.length) 10, unl (ws.all (sml 1000)) 2, unl (!(unl (ws.all (· == 0)) 11 == 0)) 11] = 0) := ⟨hz⟩
  clear hz hf
  go_enter Try.func27, Try.ntmps27
  go_wp2_with (first | (go_at_call 79; refine (HX.out _ (by repeat (first | exact Below.refl _ _ | apply below_drew | apply below_alloc | apply pw_below_drewN))).mono ?_; rintro e w3 ⟨rfl, hb⟩; have hB : Below w.heap.size w w3 := (below_alloc (below_alloc (Below.refl _ _) _) _).trans (hb.mono (by simp; omega)); have q0 : w3.heap[w.heap.size]? = some (.cells #[.slice A0 t.length c0, .slice A1 acts.length c1] 25 (0, 0)) := blk_below (blk_alloc (blk_new w _) _) hb; have q1 : w3.heap[w.heap.size + 1]? = some (.cells #[.int .i64 0, .int .i64 0] 69 (0, 0)) := blk_below (by have := blk_new (w.alloc (.cells #[.slice A0 t.length c0, .slice A1 acts.length c1] 25)) (.cells #[.int .i64 0, .int .i64 0] 69); simp only [World.size_alloc] at this; exact this) hb; have ql : w.heap.size + 1 < w3.heap.size := (by have := hb.size; simp only [World.size_alloc] at this; omega); have ql0 : w.heap.size < w3.heap.size := (by omega); have k0 := blk_cell q0 0; have k1 := blk_cell q0 1; have k2 := blk_cell q1 0; have k3 := blk_cell q1 1; have f2 := blk_frozen q1 0; have f3 := blk_frozen q1 1) | (go_at_call 80; refine (all_any 81 #[] (· == 0) A2 c2 ws 11 _ (Kd.C_below HR2.out hB) (pred_zero _) eg81).mono ?_; rintro e w' ⟨rfl, rfl⟩))
  go_wp2_with (first | (go_at_call 42; refine (unless_any _ _ _).mono ?_; rintro e w' ⟨rfl, rfl⟩) | (go_at_call 83; refine (SZ.out _).mono ?_; rintro e w' ⟨rfl, rfl⟩) | (go_at_call 80; refine (all_any 128 _ (sml 1000) A2 c2 ws 2 _ (Kd.C_below HR2.out (by repeat (first | exact hB | exact Below.refl _ _ | apply below_drew | apply below_alloc))) (pred_sized 1000 _ (by decide) (by decide) _ (by simp) (by simp)) eg128).mono ?_; rintro e w' ⟨rfl, rfl⟩) | (go_at_call 82; refine (first4 _ _ _ _ _ _ (by simp)).mono ?_; rintro e w4 ⟨he, hq⟩; rw [HE.out] at he; subst he; have hB4 : Below w3.heap.size w3 w4 := (by obtain ⟨q, rfl⟩ := hq; exact pw_below_drewN (by repeat (first | exact Below.refl _ _ | apply below_drew | apply below_alloc)) _); clear hq; have p0 := blk_below q0 hB4; have p1 := blk_below q1 hB4; have pl := hB4.size; have pl1 : w.heap.size + 1 < w4.heap.size := (by omega); have pl0 : w.heap.size < w4.heap.size := (by omega); have h0 := blk_cell p0 0; have h1 := blk_cell p0 1; have h2 := blk_cell p1 0; have h3 := blk_cell p1 1; have g2 := blk_frozen p1 0; have g3 := blk_frozen p1 1))
  have hgl1 : ws.length ≤ t.length := Nat.le_of_eq HG.out.l
  have hgl2 : t.length ≤ ws.length := Nat.le_of_eq HG.out.l.symm
  have hg9 := HG.out.g.n9
  have HQ0 := Aside0.mk p0
  have HQ1 := Aside0.mk p1
  have HB4 : Aside0 (Below w.heap.size w w4) := ⟨hB.trans (hB4.mono (by omega))⟩
  clear p0 p1 hB hB4 HX HE SZ ql ql0 pl k1 k2 k3 f2 f3 q0 q1
  go_loop [9, 10, 11, 12, 48] (fun v9 v10 v11 v12 v48 => ∃ k : Nat, k ≤ ws.length ∧ v48 = .int .i64 k ∧ v9 = .int .i64 (dotN t ws k) ∧ v10 = .int .i64 (denN ws k)) (fun _ _ _ _ v48 => ws.length - (intOf v48).toNat)
  case atStart => exact ⟨0, Nat.zero_le _, rfl, rfl, rfl⟩
  case round =>
    obtain ⟨k, hk, rfl, rfl, rfl⟩ := hrel
    have b1 := dotN_bnd HG.out.w HG.out.g.tt (by decide) k
    have b2 := denN_bnd HG.out.w k
    by_cases hlt : k < ws.length
    · obtain ⟨a2, hA2, hc2⟩ := (Kd.reads_of_C (d := (0 : Int)) (Kd.C_below HR2.out HB4.out)).at_ (k : Int) (by omega) (by omega)
      obtain ⟨a0, hA0, hc0'⟩ := (Kd.reads_of_C (d := (0 : Int)) (Kd.C_below HR0.out HB4.out)).at_ (k : Int) (by omega) (by omega)
      subst hA2 hA0
      have hsD : Aside0 (dotN t ws (k + 1) = dotN t ws k + ws.getD k 0 * t.getD k 0) := ⟨rfl⟩
      have hsN : Aside0 (denN ws (k + 1) = denN ws k + sz (ws.getD k 0)) := ⟨rfl⟩
      have r2 : rdOf 0 ws (k : Int) = ws.getD k 0 := by simp [rdOf]
      have r0 : rdOf 0 t (k : Int) = t.getD k 0 := by simp [rdOf]
      rw [r2] at hc2
      rw [r0] at hc0'
      simp only [Int.toNat_natCast] at hc2 hc0'
      clear r2 r0
      have bx := getD_bnd HG.out.w k
      have by_ := getD_bnd (b := 100000) HG.out.g.tt k
      generalize ws.getD k 0 = x at *
      generalize t.getD k 0 = y at *
      generalize dotN t ws k = D at *
      generalize denN ws k = N at *
      have bz : 0 ≤ sz x ∧ sz x ≤ 1000 := by simp only [sz, mx]; omega
      have bp := mul_bnd bx by_
      have bp1 : -100000000 ≤ x * y := by omega
      have bp2 : x * y ≤ 100000000 := by omega
      obtain ⟨b1l, b1r⟩ := b1
      obtain ⟨b2l, b2r⟩ := b2
      have b3 : D ≤ 900000000 := by omega
      have b4 : -900000000 ≤ D := by omega
      have b5 : N ≤ 9000 := by omega
      obtain ⟨bz1, bz2⟩ := bz
      have SZX := Aside0.mk (fun W => size_at x W (by omega) (by omega))
      clear bp by_ b1l b1r b2r
      have bxl := bx.1
      have bxr := bx.2
      clear bx
      go_wp2_with (go_at_call 84; refine (SZX.out _).mono ?_; rintro e w' ⟨rfl, rfl⟩)
      have hw : wrap64 ((k : Int) + 1) = ((k + 1 : Nat) : Int) := by unfold wrap64; omega
      refine ⟨⟨k + 1, hlt, by first | rfl | (rw [hw]), by rw [hsD.out], by rw [hsN.out]⟩, ?_⟩
      exact meas_step (by first | rfl | exact hw) hlt
    · have hk' : k = ws.length := by omega
      subst hk'
      clear hlt hk
      go_wp2
      have hbN := denN_bnd HG.out.w ws.length
      have hbD1 : dotN t ws ws.length ≤ 900000000 := by have := dotN_bnd HG.out.w HG.out.g.tt (by decide) ws.length; omega
      have hbD2 : -900000000 ≤ dotN t ws ws.length := by have := dotN_bnd HG.out.w HG.out.g.tt (by decide) ws.length; omega
      have HDD : Aside0 (bndN t acts ws = actN ws ws.length (acts.drop 0) (dotN t ws ws.length)) := ⟨rfl⟩
      generalize dotN t ws ws.length = D at *
      generalize denN ws ws.length = N at *
      clear b1 b2
      have HSZ : Aside0 (w.heap.size + 1 < w4.heap.size) := ⟨pl1⟩
      clear pl0 pl1 k0 h0 h1 h2 h3 g2 g3
      go_loopw [9, 14, 15, 16, 17, 70] (fun v9 v14 v15 v16 v17 v70 wr => ∃ (i : Nat) (x : Int), i ≤ acts.length ∧ v70 = .int .i64 i ∧ v9 = .int .i64 x ∧ Aside0 (bndN t acts ws = actN ws ws.length (acts.drop i) x) ∧ -900000000 - 90000000 * i ≤ x ∧ x ≤ 900000000 + 90000000 * i ∧ Aside0 (Below w.heap.size w wr) ∧ Aside0 (w.heap.size + 1 < wr.heap.size) ∧ Aside0 (wr.heap[w.heap.size]? = some (.cells #[.slice A0 t.length c0, .slice A1 acts.length c1] 25 (0, 0))) ∧ Aside0 (wr.heap[w.heap.size + 1]? = some (.cells #[.int .i64 0, .int .i64 0] 69 (0, 0)))) (fun _ _ _ _ _ v70 _ => acts.length - (intOf v70).toNat)
      case atStart => exact ⟨0, D, Nat.zero_le _, rfl, rfl, HDD, by omega, by omega, HB4, HSZ, HQ0, HQ1⟩
      case round =>
        obtain ⟨i, x, hi, rfl, rfl, HE, bx1, bx2, HB, HS, HC0, HC1⟩ := hrel
        by_cases hlt : i < acts.length
        · obtain ⟨ad, A3, c3, e, hx0, hx1, hx2, hl3, hi3⟩ := at_T39 (Kd.C_below HR1.out HB.out) (i : Int) (by omega) (by omega)
          subst e
          simp only [Int.toNat_natCast] at hx0 hx1 hx2
          have HD : Aside0 (acts.drop i = rd_T39 acts i :: acts.drop (i + 1)) := ⟨by rw [List.drop_eq_getElem_cons hlt]; simp [rd_T39, List.getD_eq_getElem?_getD, hlt]⟩
          have hmem : rd_T39 acts (i : Int) ∈ acts := by simp [rd_T39, List.getD_eq_getElem?_getD, hlt]
          have HRG := HG.out.g.rng _ hmem
          have HLN := HG.out.g.len _ hmem
          have HEF := HG.out.g.eff _ hmem
          generalize rd_T39 acts i = a at *
          have HI3 := Aside0.mk hi3
          have HEFF := Aside0.mk HEF
          have hln1 : a.f1.length ≤ t.length := Nat.le_of_eq HLN
          have hln2 : t.length ≤ a.f1.length := Nat.le_of_eq HLN.symm
          clear hi3 HEF HLN hmem
          have hs := HS.out
          go_wp2
          have HB5 : Aside0 (Below w.heap.size w (wr.alloc (.cells #[.int .i64 a.f0.f0, .int .i64 a.f0.f1, .slice A3 a.f1.length c3] 39))) := ⟨below_alloc HB.out _⟩
          have HI5 : Aside0 (Kd.C (Kd.int .i64) (wr.alloc (.cells #[.int .i64 a.f0.f0, .int .i64 a.f0.f1, .slice A3 a.f1.length c3] 39)) A3 a.f1.length a.f1) := ⟨Kd.C_below HI3.out (below_alloc (Below.refl _ _) _)⟩
          clear hx0 hx1 hx2
          go_loop [15, 16, 17, 76] (fun v15 v16 v17 v76 => ∃ k : Nat, k ≤ ws.length ∧ v76 = .int .i64 k ∧ v15 = .int .i64 (dotN a.f1 ws k)) (fun _ _ _ v76 => ws.length - (intOf v76).toNat)
          case atStart => exact ⟨0, Nat.zero_le _, rfl, rfl⟩
          case round =>
            obtain ⟨k, hk, rfl, rfl⟩ := hrel
            have b1 := dotN_bnd HG.out.w HEFF.out (by decide) k
            by_cases hlk : k < ws.length
            · obtain ⟨a2, hA2, hc2⟩ := (Kd.reads_of_C (d := (0 : Int)) (Kd.C_below HR2.out HB5.out)).at_ (k : Int) (by omega) (by omega)
              obtain ⟨a3, hA3, hc3⟩ := (Kd.reads_of_C (d := (0 : Int)) HI5.out).at_ (k : Int) (by omega) (by omega)
              subst hA2 hA3
              have hsD : Aside0 (dotN a.f1 ws (k + 1) = dotN a.f1 ws k + ws.getD k 0 * a.f1.getD k 0) := ⟨rfl⟩
              have r2 : rdOf 0 ws (k : Int) = ws.getD k 0 := by simp [rdOf]
              have r0 : rdOf 0 a.f1 (k : Int) = a.f1.getD k 0 := by simp [rdOf]
              rw [r2] at hc2
              rw [r0] at hc3
              simp only [Int.toNat_natCast] at hc2 hc3
              clear r2 r0
              have bx := getD_bnd HG.out.w k
              have by_ := getD_bnd (b := 1000) HEFF.out k
              generalize ws.getD k 0 = x2 at *
              generalize a.f1.getD k 0 = y at *
              generalize dotN a.f1 ws k = D2 at *
              have bp := mul_bnd bx by_
              have bp1 : -1000000 ≤ x2 * y := by omega
              have bp2 : x2 * y ≤ 1000000 := by omega
              have b3 : D2 ≤ 9000000 := by omega
              have b4 : -9000000 ≤ D2 := by omega
              have hk9 : k < 9 := by omega
              clear bp by_ b1 bx bx1 bx2 HRG
              go_wp2
              have hw := wk_step hk9
              refine ⟨⟨k + 1, hlk, by first | rfl | (rw [hw]), by rw [hsD.out]⟩, ?_⟩
              exact meas_step (by first | rfl | exact hw) hlk
            · have hk' : k = ws.length := by omega
              subst hk'
              have HB6 := HB5.out
              have b3 : dotN a.f1 ws ws.length ≤ 9000000 := by omega
              have b4 : -9000000 ≤ dotN a.f1 ws ws.length := by omega
              clear hlk hk b1
              have HF0 : Aside0 (actN ws ws.length (a :: acts.drop (i + 1)) x = actN ws ws.length (acts.drop (i + 1)) (x - mx (dotN a.f1 ws ws.length * a.f0.f0) (dotN a.f1 ws ws.length * a.f0.f1))) := ⟨rfl⟩
              generalize dotN a.f1 ws ws.length = C at *
              have bl := mul_bnd (a := 9000000) (b := 10) (x := C) (y := a.f0.f0) ⟨by omega, b3⟩ ⟨by omega, by omega⟩
              have bh := mul_bnd (a := 9000000) (b := 10) (x := C) (y := a.f0.f1) ⟨by omega, b3⟩ ⟨by omega, by omega⟩
              obtain ⟨bl1, bl2⟩ := bl
              obtain ⟨bh1, bh2⟩ := bh
              have hi3 : i < 3 := by have := HG.out.g.m3; omega
              have bm1 : -90000000 ≤ mx (C * a.f0.f0) (C * a.f0.f1) := by simp only [mx]; omega
              have bm2 : mx (C * a.f0.f0) (C * a.f0.f1) ≤ 90000000 := by simp only [mx]; omega
              have bq1 : -900000000 - 90000000 * ((i + 1 : Nat) : Int) ≤ x - mx (C * a.f0.f0) (C * a.f0.f1) := by omega
              have bq2 : x - mx (C * a.f0.f0) (C * a.f0.f1) ≤ 900000000 + 90000000 * ((i + 1 : Nat) : Int) := by omega
              have BQ := Aside0.mk (And.intro bq1 bq2)
              have hxl : -2000000000 ≤ x := by omega
              have hxr : x ≤ 2000000000 := by omega
              clear bq1 bq2 bx1 bx2 bm1 bm2
              go_wp2
              exact ⟨⟨i + 1, _, hlt, rfl, rfl, ⟨by rw [HE.out, HD.out]; exact HF0.out⟩, BQ.out.1, BQ.out.2, HB5, ⟨by rw [World.size_alloc]; exact Nat.lt_succ_of_lt hs⟩, ⟨blk_alloc HC0.out _⟩, ⟨blk_alloc HC1.out _⟩⟩, meas_step rfl hlt⟩
        · have hi' : i = acts.length := by omega
          subst hi'
          have hx : bndN t acts ws = x := by rw [HE.out, List.drop_length]; rfl
          have HFX : Aside0 (flat_fraction.f k0_ x N = some (n0_, d0_, e0_)) := ⟨by rw [← hx]; exact HFR.out⟩
          have hs := HS.out
          have hs0 : w.heap.size < wr.heap.size := by omega
          clear hx HE hlt hi bx1 bx2
          go_wp2_with (go_at_call 85; refine (flat_fraction.calls k0_ x N n0_ d0_ e0_ _ HFX.out).mono ?_; rintro e w6 ⟨rfl, hb6⟩; have p1 := blk_below HC1.out hb6; have pl := hb6.size; have pl1 : w.heap.size + 1 < w6.heap.size := (by omega); have h2 := blk_cell p1 0; have h3 := blk_cell p1 1; have g2 := blk_frozen p1 0; have g3 := blk_frozen p1 1)
          refine bodyPost_ret (results_ct rfl _ _ (w.heap.size + 1) 69 #[.int .i64 n0_, .int .i64 d0_] (0, 0) _ rfl (by
            refine blk_put (cs := #[.int .i64 n0_, .int .i64 0]) ?_ 1 _ rfl
            exact blk_put p1 0 _ rfl) Try.underlying69 rfl (by kernel_rfl)) rfl ?_
          exact ⟨rfl, below_set (below_set (HB.out.trans (hb6.mono (by omega))) (by omega)) (by omega)⟩
end Go.Proofs.Ytbijfhmpafjceaa.E
