import Derived.Test.YtbijfhmpafjceaaE12
set_option linter.unusedVariables false
set_option linter.unusedSimpArgs false
namespace Go.Proofs.Ytbijfhmpafjceaa.E
open Go.RowKit Go.Proofs.YtbijfhmpafjceaaW.PrintWords Go.Proofs.YtbijfhmpafjceaaW.PrintMore Go.Proofs.Ytbijfhmpafjceaa.PFlatKept
theorem neq22 (w : World) (a : Option Addr) (n c : Nat) : (binOp .neq 22 (.slice a n c) (.slice none 0 0)).run Try.prog w = .ok (.bool (!a.isNone)) w := by
  simp only [binOp]
  simp [Op.equal, Op.maxDepth, Go.Lib.run_equalIn_slice_nil w 9999 22 3 a n c 0 0 Try.underlying22]
attribute [local go_sem] Oper.semAt_some eql22 neq22 wide_fn wide_depth

/-- Which sets are marked, as memory. -/
def bools (T : Nat → Bool) : Array Value := Array.ofFn (n := 512) fun k => .bool (T k)
theorem bools_get (T : Nat → Bool) (k : Nat) (hk : k < 512) : (bools T)[k]? = some (.bool (T k)) := by
  simp [bools, hk]
theorem bools_set (T : Nat → Bool) (k : Nat) (b : Bool) : (bools T).setIfInBounds k (.bool b) = bools (fun j => if j = k then b else T j) := by
  unfold bools
  apply Array.ext (by simp)
  intro j h1 h2
  have h3 : j < 512 := by simpa using h2
  rw [Array.getElem_setIfInBounds (by simpa using h3)]
  simp only [Array.getElem_ofFn]
  by_cases h : k = j
  · rw [if_pos h, if_pos h.symm]
  · rw [if_neg h, if_neg (fun e => h e.symm)]
theorem bools_zero : Try.zeroCells87 = bools (fun _ => false) := by kernel_rfl
theorem bools_cell {W : World} {b : Nat} {T : Nat → Bool} (h : W.heap[b]? = some (.cells (bools T) 87 (0, 0))) (k : Nat) (hk : k < 512) : W.cell? ⟨b, k, none⟩ = some (.bool (T k)) := by
  simp [World.cell?, h, bools_get T k hk]
theorem bools_frozen {W : World} {b : Nat} {T : Nat → Bool} (h : W.heap[b]? = some (.cells (bools T) 87 (0, 0))) (k : Nat) : W.frozen? ⟨b, k, none⟩ = false := by
  simp [World.frozen?, h]
theorem bools_store {W : World} {b : Nat} {T : Nat → Bool} (h : W.heap[b]? = some (.cells (bools T) 87 (0, 0))) (k : Nat) (v : Bool) :
    (W.setCell ⟨b, k, none⟩ (.bool v)).heap[b]? = some (.cells (bools (fun j => if j = k then v else T j)) 87 (0, 0)) := blk_put h k _ (bools_set T k v)

structure CJ (t : List Int) (acts : List S39) (tol : Int) (w : World) (n : Nat) (o o25 : Obj) (r : Loop) (g i : Nat) (X : World) : Prop where
  bel : Below w.heap.size w X
  bx : X.heap[n]? = some o
  df : X.heap[n + 2]? = some (.deferred (some []))
  lp : X.heap[n + 3]? = some (.loop r)
  rb : X.heap[w.heap.size]? = some o25
  tb : X.heap[w.heap.size + 1]? = some (.cells #[.int .i64 tol] 3 (0, 0))
  st : ∃ T, X.heap[n + 1]? = some (.cells (bools T) 87 (0, 0)) ∧ ∀ m, T m = true ↔ ∃ s ∈ (sets acts).take i, keptN t acts tol s = m
theorem CJ.move {t : List Int} {acts : List S39} {tol : Int} {w : World} {n : Nat} {o o25 : Obj} {r : Loop} {g i : Nat} {X Y : World} (h : CJ t acts tol w n o o25 r g i X) (hb : Below w.heap.size w Y) (hw : w.heap.size + 2 ≤ n) (hn : n + 4 ≤ g) (hm : ∀ k, k ≠ g → k < X.heap.size → Y.heap[k]? = X.heap[k]?) : CJ t acts tol w n o o25 r g i Y := by
  obtain ⟨h1, h2, h3, h4, h5, h6, T, h7, h8⟩ := h
  have go : ∀ {k : Nat} {o : Obj}, k < n + 4 → X.heap[k]? = some o → Y.heap[k]? = some o := fun {k o} hk hx => (hm k (by omega) (Array.getElem?_eq_some_iff.1 hx).1).trans hx
  exact ⟨hb, go (by omega) h2, go (by omega) h3, go (by omega) h4, go (by omega) h5, go (by omega) h6, T, go (by omega) h7, h8⟩

def orAt (T : Nat → Bool) (s i : Nat) : Nat → Bool := fun j => if j = clr s i then (T (clr s i) || T s) else T j
theorem lower_store {T : Nat → Bool} {s i : Nat} (hL : T s = true → ∀ j < i, T (clr s j) = true) : orAt T s i s = true → ∀ j < i + 1, orAt T s i (clr s j) = true := by
  intro h j hj
  unfold orAt at h ⊢
  have hs : T s = true := by
    split at h
    · rename_i e; rw [← e] at h; simpa using h
    · exact h
  split
  · rw [hs]; simp
  · rename_i hne
    by_cases e : j = i
    · subst e; exact absurd rfl hne
    · exact hL hs j (by omega)
theorem Down.orAt {Kn : Nat → Prop} {n : Nat} {T : Nat → Bool} {s : Nat} (h : Down Kn n T s) (i : Nat) : Down Kn n (orAt T s i) s := h.store i
theorem orAt_store {W : World} {b s i : Nat} {T : Nat → Bool} (h : W.heap[b]? = some (.cells (bools T) 87 (0, 0))) (v : Bool) (hv : (T (clr s i) || T s) = v) :
    (W.setCell ⟨b, clr s i, none⟩ (.bool v)).drew.heap[b]? = some (.cells (bools (orAt T s i)) 87 (0, 0)) := by
  subst hv; exact bools_store h _ _
theorem own_below {w w1 : World} {base : Nat} {e : TypeId} {size n : Nat} {v : Value} {xs : List Value} (h : w.ownsRow base e size v n xs) (hb : Below w.heap.size w w1) : w1.ownsRow base e size v n xs := own_move h (fun j hj => hb.block j (own_lt h j hj))
theorem pos_some : ∀ x < 512, 1 ≤ x → 1 ≤ (posN x).length := by decide +kernel
theorem pos_at (x : Nat) (hx : x < 512) (h1 : 1 ≤ x) {z : Int} (hz : z = (x : Int)) (w : World) : Calls Try.prog 40 #[.int .i64 z] w fun e w' => ∃ (g c : Nat), e = .returned (.slice (some ⟨g, 0, none⟩) (posN x).length c) ∧ w'.ownsRow w.heap.size 3 1 (.slice (some ⟨g, 0, none⟩) (posN x).length c) (posN x).length (nums .i64 (posN x)) ∧ Below w.heap.size w w' := by
  subst hz
  refine (positions_any x hx w).mono ?_
  rintro e w' ⟨v, rfl, hR, hb⟩
  have ho : w'.ownsRow w.heap.size 3 1 v (posN x).length (nums .i64 (posN x)) := Kd.own_of_R hR
  have := pos_some x hx h1
  rcases ho.2 with ⟨_, h⟩ | ⟨g, cap, cur, rfl, _⟩
  · omega
  · exact ⟨g, cap, rfl, ho, hb⟩

/-- What lies on in the loops. -/
structure CF (w : World) (n : Nat) (o o25 : Obj) (X : World) : Prop where
  bel : Below w.heap.size w X
  bx : X.heap[n]? = some o
  df : X.heap[n + 2]? = some (.deferred (some []))
  rb : X.heap[w.heap.size]? = some o25
theorem CF.store {w : World} {n : Nat} {o o25 : Obj} {X : World} (h : CF w n o o25 X) (hw : w.heap.size + 2 ≤ n) (k : Nat) (v : Value) : CF w n o o25 (X.setCell ⟨n + 1, k, none⟩ v) :=
  ⟨below_set h.bel (by omega), (Below.heap_setCell _ _ _ _ (show n ≠ n + 1 by omega)).trans h.bx, (Below.heap_setCell _ _ _ _ (show n + 2 ≠ n + 1 by omega)).trans h.df, (Below.heap_setCell _ _ _ _ (show w.heap.size ≠ n + 1 by omega)).trans h.rb⟩
theorem CF.drew {w : World} {n : Nat} {o o25 : Obj} {X : World} (h : CF w n o o25 X) : CF w n o o25 X.drew := ⟨below_drew h.bel, h.bx, h.df, h.rb⟩
theorem CF.below {w : World} {n : Nat} {o o25 : Obj} {X Y : World} (h : CF w n o o25 X) (hb : Below X.heap.size X Y) : CF w n o o25 Y :=
  ⟨h.bel.trans (hb.mono h.bel.size), blk_below h.bx hb, blk_below h.df hb, blk_below h.rb hb⟩

/-! The last loop. -/
theorem stepK {k pn : Nat} (hk : k < pn) (hl : ¬ k = pn - 1) : k + 1 < pn := by omega
theorem stepM {k pn : Nat} (h : k + 1 < pn) : pn - (intOf (.int .i64 ((k : Int) + 1 + 1))).toNat < pn - (intOf (.int .i64 ((k : Int) + 1))).toNat := by simp only [intOf]; omega
theorem bestC_skip {T : Nat → Bool} {k : Nat} {o : Option (List Int)} (h : T (k + 1) = true) (hb : bestC T k = o) : bestC T (k + 1) = o := by simp only [bestC]; rw [h, if_pos rfl]; exact hb
theorem bestC_first {T : Nat → Bool} {k : Nat} (h : T (k + 1) = false) (hb : bestC T k = none) : bestC T (k + 1) = some (posN (k + 1)) := by simp only [bestC]; rw [h, if_neg (by simp), hb]
theorem bestC_take {T : Nat → Bool} {k : Nat} {b : List Int} (h : T (k + 1) = false) (hb : bestC T k = some b) (hc : (posN (k + 1)).length < b.length ∨ ((posN (k + 1)).length = b.length ∧ cmpL (posN (k + 1)) b < 0)) : bestC T (k + 1) = some (posN (k + 1)) := by simp only [bestC]; rw [h, if_neg (by simp), hb]; simp only; rw [if_pos hc]
theorem bestC_leave {T : Nat → Bool} {k : Nat} {b : List Int} (h : T (k + 1) = false) (hb : bestC T k = some b) (hc : ¬ ((posN (k + 1)).length < b.length ∨ ((posN (k + 1)).length = b.length ∧ cmpL (posN (k + 1)) b < 0))) : bestC T (k + 1) = some b := by simp only [bestC]; rw [h, if_neg (by simp), hb]; simp only; rw [if_neg hc]
theorem pos_le9 (x : Nat) : (posN x).length ≤ 9 := posIn_length x 9
/-- What the last loop's round starts from and ends at. -/
def Lst (w : World) (n pn : Nat) (o o25 : Obj) (T : Nat → Bool) (v12 v13 : Value) (W1 : World) : Prop :=
  ∃ (k : Nat), v13 = .int .i64 ((k : Int) + 1) ∧ k < pn ∧ Aside0 (W1.heap[n + 1]? = some (.cells (bools T) 87 (0, 0))) ∧ Aside0 (CF w n o o25 W1) ∧
    ((bestC T k = none ∧ v12 = .slice none 0 0) ∨ ∃ b gb cb, bestC T k = some b ∧ v12 = .slice (some ⟨gb, 0, none⟩) b.length cb ∧ Aside0 (W1.ownsRow w.heap.size 3 1 (.slice (some ⟨gb, 0, none⟩) b.length cb) b.length (nums .i64 b)) ∧ b.length ≤ 9)
theorem lst_none {w : World} {n pn k : Nat} {o o25 : Obj} {T : Nat → Bool} {W1 : World} (hk : k < pn) (h1 : W1.heap[n + 1]? = some (.cells (bools T) 87 (0, 0))) (h2 : CF w n o o25 W1) (h3 : bestC T k = none) : Lst w n pn o o25 T (.slice none 0 0) (.int .i64 ((k : Int) + 1)) W1 :=
  ⟨k, rfl, hk, ⟨h1⟩, ⟨h2⟩, .inl ⟨h3, rfl⟩⟩
theorem lst_some {w : World} {n pn k : Nat} {o o25 : Obj} {T : Nat → Bool} {W1 : World} {b : List Int} {gb cb : Nat} (hk : k < pn) (h1 : W1.heap[n + 1]? = some (.cells (bools T) 87 (0, 0))) (h2 : CF w n o o25 W1) (h3 : bestC T k = some b)
    (h4 : W1.ownsRow w.heap.size 3 1 (.slice (some ⟨gb, 0, none⟩) b.length cb) b.length (nums .i64 b)) (h5 : b.length ≤ 9) : Lst w n pn o o25 T (.slice (some ⟨gb, 0, none⟩) b.length cb) (.int .i64 ((k : Int) + 1)) W1 :=
  ⟨k, rfl, hk, ⟨h1⟩, ⟨h2⟩, .inr ⟨b, gb, cb, h3, rfl, ⟨h4⟩, h5⟩⟩
theorem own_cells {W : World} {base : Nat} {e : TypeId} {size n : Nat} {v : Value} {xs : List Value} (h : W.ownsRow base e size v n xs) {k : Nat} (hk : v.ownBlock = some k) : ∃ o t f, W.heap[k]? = some (.cells o t f) := by
  rcases h.2 with ⟨rfl, _⟩ | ⟨g, cap, cur, rfl, _, hc, _⟩
  · simp [Value.ownBlock] at hk
  · have : g = k := by simpa [Value.ownBlock] using hk
    subst this
    exact ⟨_, _, _, hc⟩
theorem own_notdef {W : World} {base : Nat} {e : TypeId} {size n : Nat} {v : Value} {xs : List Value} (h : W.ownsRow base e size v n xs) {D : Nat} {l : Option (List Deferred)} (hD : W.heap[D]? = some (.deferred l)) : ∀ k, v.ownBlock = some k → k ≠ D := by
  intro k hk e
  subst e
  obtain ⟨o, t, f, hc⟩ := own_cells h hk
  rw [hD] at hc; cases hc
theorem CF.drewN {w : World} {n : Nat} {o o25 : Obj} {X : World} (h : CF w n o o25 X) (q : Nat) : CF w n o o25 (X.drewN q) := ⟨pw_below_drewN h.bel q, h.bx, h.df, h.rb⟩
theorem own_drewN {w : World} {base : Nat} {e : TypeId} {size n : Nat} {v : Value} {xs : List Value} (h : w.ownsRow base e size v n xs) (q : Nat) : (w.drewN q).ownsRow base e size v n xs := own_move h (fun _ _ => rfl)
theorem compare_len {B0 B1 : Nat} (gl gb : Nat) (c0 c1 n0 : Nat) (l0 l1 : List Int) (w : World) (hn : l0.length = n0) (h0 : w.ownsRow B0 3 1 (.slice (some ⟨gl, 0, none⟩) l0.length c0) l0.length (nums .i64 l0)) (h1 : w.ownsRow B1 3 1 (.slice (some ⟨gb, 0, none⟩) l1.length c1) l1.length (nums .i64 l1)) (hl : l0.length ≤ 1000) :
    Calls Try.prog 41 #[.slice (some ⟨gl, 0, none⟩) n0 c0, .slice (some ⟨gb, 0, none⟩) l1.length c1] w fun e w' => e = .returned (.int .i64 (cmpL l0 l1)) ∧ ∃ q, w' = w.drewN q := by
  subst hn
  exact compare_any _ _ c0 c1 l0 l1 w (own_C h0) (own_le h0) (own_C h1) (own_le h1) hl
theorem own_low {W : World} {B B2 : Nat} {e : TypeId} {size n : Nat} {v : Value} {xs : List Value} (h : W.ownsRow B2 e size v n xs) (hB : B ≤ B2) : W.ownsRow B e size v n xs := own_weaken h hB

set_option maxRecDepth 100000 in
set_option maxHeartbeats 1200000 in
theorem Contra_bad (A0 A1 : Option Addr) (c0 c1 : Nat) (t : List Int) (acts : List S39) (tol : Int) (w : World) (hr0 : Kd.C (Kd.int .i64) w A0 t.length t) (hr1 : Kd.C k39 w A1 acts.length acts) (hc1 : acts.length ≤ c1) (hz : fst1 [(rulesE t acts).2, tolE tol] ≠ 0) :
    Calls Try.prog 13 #[.agg #[.slice A0 t.length c0, .slice A1 acts.length c1], .int .i64 tol] w fun e w' => e = .returned (.tuple #[.slice none 0 0, .int .i64 (fst1 [(rulesE t acts).2, tolE tol])]) ∧ Below w.heap.size w w' := by
  have HX := Aside0.mk (fun W (hW : Below w.heap.size w W) => openTol_any A0 A1 c0 c1 t acts tol W (Kd.C_below hr0 hW) (Kd.C_below hr1 hW) hc1)
  clear hr0 hr1
  generalize hE : fst1 [(rulesE t acts).2, tolE tol] = er at *
  have hz1 : (er == 0) = false := by simpa using hz
  have hz2 : (er != 0) = true := by simpa using hz
  clear hE
  go_enter Try.func13, Try.ntmps13
  go_wp2_with (go_at_call 37; refine (HX.out _ (by repeat (first | exact Below.refl _ _ | apply below_drew | apply below_alloc | apply pw_below_drewN))).mono ?_; rintro e W2 ⟨rfl, hb⟩; have qtb : W2.heap[w.heap.size + 1]? = some (.cells #[.int .i64 tol] 3 (0, 0)) := blk_below (by have := blk_new (w.alloc (.cells #[.slice A0 t.length c0, .slice A1 acts.length c1] 25)) (.cells #[.int .i64 tol] 3); simp only [World.size_alloc] at this; exact this) hb; have qrb : W2.heap[w.heap.size]? = some (.cells #[.slice A0 t.length c0, .slice A1 acts.length c1] 25 (0, 0)) := blk_below (blk_alloc (blk_new w _) _) hb; have ql1 : w.heap.size + 1 < W2.heap.size := (by have := hb.size; simp only [World.size_alloc] at this; omega); have ql2 : w.heap.size < W2.heap.size := (by omega))
  go_ret2
  exact ⟨rfl, below_alloc (below_then (below_alloc (below_alloc (Below.refl _ _) _) _) (by simp; omega) hb) _⟩

set_option maxRecDepth 100000 in
set_option maxHeartbeats 8000000 in
theorem Contra_good (A0 A1 : Option Addr) (c0 c1 : Nat) (t : List Int) (acts : List S39) (tol : Int) (w : World) (hr0 : Kd.C (Kd.int .i64) w A0 t.length t) (hc0 : t.length ≤ c0) (hr1 : Kd.C k39 w A1 acts.length acts) (hc1 : acts.length ≤ c1) (hz : fst1 [(rulesE t acts).2, tolE tol] = 0) (hg : Good t acts) :
    Calls Try.prog 13 #[.agg #[.slice A0 t.length c0, .slice A1 acts.length c1], .int .i64 tol] w fun e w' =>
      (∃ v l, e = .returned (.tuple #[v, .int .i64 0]) ∧ contraL t acts tol = some l ∧ w'.ownsRow w.heap.size 3 1 v l.length (nums .i64 l) ∧ Below w.heap.size w w') ∨
      (e = .returned (.tuple #[.slice none 0 0, .int .i64 12]) ∧ contraL t acts tol = none ∧ Below w.heap.size w w') := by
  have HX := Aside0.mk (fun W (hW : Below w.heap.size w W) => openTol_any A0 A1 c0 c1 t acts tol W (Kd.C_below hr0 hW) (Kd.C_below hr1 hW) hc1)
  rw [hz] at HX
  have HR0 := Aside0.mk hr0
  have HR1 := Aside0.mk hr1
  have HG := Aside0.mk hg
  clear hr0 hr1
  refine calls_of_marks Try.func13 rfl ?_
  simp only [Try.ntmps13, List.size_toArray, List.length_cons, List.length_nil, Nat.reduceAdd, Nat.reduceSub, Array.replicate_succ, Array.replicate_zero, List.push_toArray, List.append_toArray, List.nil_append, List.cons_append]
  go_wp2_with (go_at_call 37; refine (HX.out _ (by repeat (first | exact Below.refl _ _ | apply below_drew | apply below_alloc | apply pw_below_drewN))).mono ?_; rintro e W2 ⟨rfl, hb⟩; have qtb : W2.heap[w.heap.size + 1]? = some (.cells #[.int .i64 tol] 3 (0, 0)) := blk_below (by have := blk_new (w.alloc (.cells #[.slice A0 t.length c0, .slice A1 acts.length c1] 25)) (.cells #[.int .i64 tol] 3); simp only [World.size_alloc] at this; exact this) hb; have qrb : W2.heap[w.heap.size]? = some (.cells #[.slice A0 t.length c0, .slice A1 acts.length c1] 25 (0, 0)) := blk_below (blk_alloc (blk_new w _) _) hb; have ql1 : w.heap.size + 1 < W2.heap.size := (by have := hb.size; simp only [World.size_alloc] at this; omega); have ql2 : w.heap.size < W2.heap.size := (by omega))
  have hbw : Below w.heap.size w W2 := below_then (below_alloc (below_alloc (Below.refl _ _) _) _) (by simp; omega) hb
  refine (wpIn_wide (n := 1)).1 (range_at (gf := 34) (bd := #[.agg #[.slice A0 t.length c0, .slice A1 acts.length c1]]) rfl (enters_of Try.func34 (by kernel_rfl) rfl) ?_)
  intro fn W1 hW1
  simp only [World.size_alloc] at hW1 ⊢
  generalize hn2 : W2.heap.size = n at *
  generalize hrec : recOf fn _ _ _ _ _ = rec at *
  have hs1 : W1.heap.size = n + 4 := by rw [hW1]; simp; omega
  have hb1 : W1.heap[n]? = some (.cells #[.slice A0 t.length c0, .slice A1 acts.length c1] 81 (0, 0)) := by rw [hW1]; rw [← hn2]; exact blk_alloc (blk_alloc (blk_alloc (blk_new W2 _) _) _) _
  have hb2 : W1.heap[(n + 1)]? = some (.cells (bools (fun _ => false)) 87 (0, 0)) := by rw [hW1]; rw [← hn2, ← bools_zero]; exact blk_alloc (blk_alloc (by have := blk_new (W2.alloc (.cells #[.slice A0 t.length c0, .slice A1 acts.length c1] 81)) (.cells Try.zeroCells87 87); simp only [World.size_alloc] at this; exact this) _) _
  have hb4 : W1.heap[(n + 2)]? = some (.deferred (some [])) := by rw [hW1]; rw [← hn2]; exact blk_alloc (by have := blk_new ((W2.alloc (.cells #[.slice A0 t.length c0, .slice A1 acts.length c1] 81)).alloc (.cells Try.zeroCells87 87)) (.deferred (some [])); simp only [World.size_alloc] at this; exact this) _
  have hb5 : W1.heap[(n + 3)]? = some (.loop (rec .ready none)) := by rw [hW1]; rw [← hn2]; exact (by have := blk_new (((W2.alloc (.cells #[.slice A0 t.length c0, .slice A1 acts.length c1] 81)).alloc (.cells Try.zeroCells87 87)).alloc (.deferred (some []))) (.loop (rec .ready none)); simp only [World.size_alloc] at this; exact this)
  have hbr : W1.heap[w.heap.size]? = some (.cells #[.slice A0 t.length c0, .slice A1 acts.length c1] 25 (0, 0)) := by rw [hW1]; exact blk_alloc (blk_alloc (blk_alloc (blk_alloc qrb _) _) _) _
  have hbt : W1.heap[(w.heap.size + 1)]? = some (.cells #[.int .i64 tol] 3 (0, 0)) := by rw [hW1]; exact blk_alloc (blk_alloc (blk_alloc (blk_alloc qtb _) _) _) _
  have hbel1 : Below w.heap.size w W1 := by rw [hW1]; exact below_alloc (below_alloc (below_alloc (below_alloc hbw _) _) _) _
  clear hW1 HX qrb qtb hb hbw
  show Calls Try.prog 34 #[.agg #[.slice A0 t.length c0, .slice A1 acts.length c1], .func (.yield (n + 3)) #[] #[]] W1 _
  refine (settings_at A0 A1 t.length c0 c1 acts HG.out.m1 HG.out.m3 HG.out.rng (n + 3) W1 (Kd.C_below HR1.out hbel1) (CJ t acts tol w n (.cells #[.slice A0 t.length c0, .slice A1 acts.length c1] 81 (0, 0)) (.cells #[.slice A0 t.length c0, .slice A1 acts.length c1] 25 (0, 0)) (rec .ready none)) (fun _ => False) ?kj0 ?kjs ?kjd ?kjc ?kyy).mono ?kfin
  case kj0 =>
    intro g Y hg0 hg1 hB
    rw [hs1] at hB
    exact ⟨hbel1.trans (hB.mono (by omega)), (hB.block n (by omega)).trans hb1, (hB.block _ (by omega)).trans hb4, (hB.block _ (by omega)).trans hb5, (hB.block _ (by omega)).trans hbr, (hB.block _ (by omega)).trans hbt, _, (hB.block _ (by omega)).trans hb2, by simp⟩
  case kjs =>
    intro g i X j v hg0 hJ
    exact hJ.move (below_set hJ.bel (by omega)) (by omega) (by omega) (fun k hk _ => Below.heap_setCell _ _ _ _ hk)
  case kjd => exact fun g i X hJ => ⟨below_drew hJ.bel, hJ.bx, hJ.df, hJ.lp, hJ.rb, hJ.tb, hJ.st⟩
  case kjc => exact fun g i X hJ => Kd.C_below HR1.out hJ.bel
  case kyy =>
    clear hb1 hb2 hb4 hb5 hbt hbr
    intro g n1 i X c xs hg0 hg1 hn1 hxs hJ hown
    obtain ⟨hbel, hbx, hdf, hlp, hrb, htb, T, hbT, hT⟩ := hJ
    rw [hs1] at hg0
    have hF := (mem_sets acts xs).1 (List.mem_of_getElem? hxs)
    have hxl := hF.length
    have htens : tens xs := tens_of hg.rng hF
    have hg1' : n + 4 ≤ X.heap.size := by omega
    refine round_of hrec hlp rfl ?_
    replace hlp := Aside0.mk hlp
    gi_wp2
    refine ⟨hlp.out, ?_⟩
    obtain ⟨Y, hY⟩ : ∃ Y, Y = X.putObj (n + 3) (.loop (rec .busy none)) := ⟨_, rfl⟩
    rw [← hY]
    have hYs : Y.heap.size = X.heap.size := by rw [hY]; simp
    have hYk : ∀ k, k ≠ n + 3 → Y.heap[k]? = X.heap[k]? := fun k hk => by rw [hY]; exact World.putObj_heap_other hk
    have hYl : Y.heap[n + 3]? = some (.loop (rec .busy none)) := by rw [hY]; exact World.putObj_heap_same (by omega)
    have hbY : Below w.heap.size w Y := by rw [hY]; exact below_put hbel (by omega) _
    have hownY := own_move hown (w1 := Y) (fun k hk => by
      have : g = k := by simpa [Value.ownBlock] using hk
      exact hYk k (by omega))
    have hgX : g < X.heap.size := own_lt hown g rfl
    have hCY := own_C hownY
    rw [hxl] at hCY
    have MX := Aside0.mk (kept_at A0 A1 (some ⟨g, 0, none⟩) c0 c1 c t acts xs acts.length tol Y hg hxl htens (Kd.C_below HR0.out hbY) hc0 (Kd.C_below HR1.out hbY) hc1 hCY (own_le hown))
    have ybx := (hYk n (by omega)).trans hbx
    have ytb : Boxed Y (w.heap.size + 1) 3 (.int .i64 tol) := (hYk _ (by omega)).trans htb
    have ytc := Boxed.cell ytb
    have yc0 : Y.cell? ⟨n, 0, none⟩ = some (.slice A0 t.length c0) := by simp [World.cell?, ybx]
    have yc1 : Y.cell? ⟨n, 1, none⟩ = some (.slice A1 acts.length c1) := by simp [World.cell?, ybx]
    have hkl : keptN t acts tol xs < 512 := Nat.lt_of_lt_of_le (setOf_lt _ _) (by rw [show (512 : Nat) = 2 ^ 9 from rfl]; exact Nat.pow_le_pow_right (by decide) hg.n9)
    generalize hkN : keptN t acts tol xs = kN at *
    have ybT := (hYk (n + 1) (by omega)).trans hbT
    have HBY := Aside0.mk hbY
    have HHY := Aside0.mk (And.intro hYs (And.intro hYk (And.intro hYl (And.intro hbx (And.intro hbel (And.intro hdf (And.intro hrb (And.intro htb (And.intro hT (And.intro hkN hxs))))))))))
    clear hYk hYl hbel hdf hlp htb hbT hrb hown hownY hrec hbY hCY hgX hY hYs ybx hbx hkN hT hxs
    gi_wp2_with (gi_at_call 38; refine (CallsIn.inRound _ (callsIn_wide.2 MX.out)).mono ?_; rintro e Z ⟨rfl, hZ⟩; have zbT := blk_below ybT hZ; have zcT := bools_cell zbT kN hkl; have zfT := bools_frozen zbT kN)
    obtain ⟨hYs, hYk, hYl, hbx, hbel, hdf, hrb, htb, hT, hkN, hxs⟩ := HHY.out
    have hZs := hZ.size
    have hUs : Z.heap.size ≤ (Z.setCell ⟨n + 1, kN, none⟩ (.bool true)).heap.size := (KeepsWalks.setCell Z _ _).size
    have hU : ∀ k, k ≠ n + 1 → k < Y.heap.size → (Z.setCell ⟨n + 1, kN, none⟩ (.bool true)).heap[k]? = Y.heap[k]? := fun k h1 h3 =>
      (Below.heap_setCell _ _ _ _ h1).trans (hZ.block k h3)
    have go : ∀ {k : Nat} {o : Obj}, k < n + 3 → k ≠ n + 1 → X.heap[k]? = some o → ((Z.setCell ⟨n + 1, kN, none⟩ (.bool true)).putObj (n + 3) (.loop (rec .ready none))).heap[k]? = some o := fun {k o} hk hk1 h => (World.putObj_heap_other (by omega)).trans ((hU k hk1 (by omega)).trans ((hYk k (by omega)).trans h))
    refine ⟨(hU _ (by omega) (by omega)).trans hYl, .inl ⟨rfl, ⟨?_, go (by omega) (by omega) hbx, go (by omega) (by omega) hdf, World.putObj_heap_same (by omega), go (by omega) (by omega) hrb, go (by omega) (by omega) htb, _, (World.putObj_heap_other (by omega)).trans (bools_store zbT kN true), ?_⟩, ?_, ?_⟩⟩
    · exact below_put (below_set (HBY.out.trans (hZ.mono (by have := HBY.out.size; omega))) (by omega)) (by omega) _
    · intro m
      obtain ⟨hil, hie⟩ := List.getElem?_eq_some_iff.1 hxs
      rw [List.take_succ_eq_append_getElem hil, hie]
      by_cases hm : m = kN
      · rw [if_pos hm]
        exact ⟨fun _ => ⟨xs, by simp, hkN.trans hm.symm⟩, fun _ => rfl⟩
      · rw [if_neg hm, hT m]
        constructor
        · rintro ⟨s, hs, e⟩
          exact ⟨s, List.mem_append_left _ hs, e⟩
        · rintro ⟨s, hs, e⟩
          rw [List.mem_append, List.mem_singleton] at hs
          rcases hs with hs | rfl
          · exact ⟨s, hs, e⟩
          · exact absurd (hkN.symm.trans e).symm hm
    · rw [World.putObj_size]; omega
    · intro k hk1 hk2
      exact (World.putObj_heap_other (by omega)).trans ((hU k (by omega) (by omega)).trans (hYk k (by omega)))
  case kfin =>
    rintro e W3 ⟨⟨v0, rfl⟩, (⟨g, hJ⟩ | h)⟩
    rotate_left
    · exact h.elim
    refine ⟨⟨v0, rfl⟩, .ready, none, by decide, hJ.lp, ?_⟩
    obtain ⟨hbel, hbx, hdf, hlp, hrb, htb, T, hbT, hT⟩ := hJ
    obtain ⟨W4, hW4⟩ : ∃ W4, W4 = W3.putObj (n + 3) (.loop (rec .exhausted none)) := ⟨_, rfl⟩
    have hk4 : ∀ k, k ≠ n + 3 → W4.heap[k]? = W3.heap[k]? := fun k hk => by rw [hW4]; exact World.putObj_heap_other hk
    have hbel4 : Below w.heap.size w W4 := by rw [hW4]; exact below_put hbel (by omega) _
    have hbx4 := (hk4 _ (by omega)).trans hbx
    have hrb4 := (hk4 _ (by omega)).trans hrb
    have hdf4 := (hk4 (n + 2) (by omega)).trans hdf
    have hbT4 := (hk4 (n + 1) (by omega)).trans hbT
    rw [List.take_length] at hT
    rw [← hW4]
    clear hbx hlp hrec hk4 hW4 hrb htb hdf hbel hb1 hb2 hb4 hb5 hbt hbr hbT
    have hlt4 : n + 3 ≤ W4.heap.size := (Array.getElem?_eq_some_iff.1 hdf4).1
    have xc0 : W4.cell? ⟨n, 0, none⟩ = some (.slice A0 t.length c0) := by simp [World.cell?, hbx4]
    have xc1 : W4.cell? ⟨n, 1, none⟩ = some (.slice A1 acts.length c1) := by simp [World.cell?, hbx4]
    have EV := Aside0.mk (fun W (hW : Below w.heap.size w W) => everywhere_any A0 A1 c0 c1 t acts W (Kd.C_below HR0.out hW) hc0 (Kd.C_below HR1.out hW) hc1 hg.n9)
    have HB4 := Aside0.mk hbel4
    have HD4 := Aside0.mk hdf4
    have HX4 := Aside0.mk hbx4
    have HR4 := Aside0.mk hrb4
    have HT4 := Aside0.mk hbT4
    have HTT := Aside0.mk hT
    clear hbel4 hdf4 hbx4 hrb4 hbT4 hT
    simp only [behindQ, marked]
    go_wp2_with (go_at_call 39; refine (EV.out _ HB4.out).mono ?_; rintro e Z ⟨rfl, hZ⟩)
    have HC := Aside0.mk (CF.below ⟨HB4.out, HX4.out, HD4.out, HR4.out⟩ hZ : CF w n (.cells #[.slice A0 t.length c0, .slice A1 acts.length c1] 81 (0, 0)) (.cells #[.slice A0 t.length c0, .slice A1 acts.length c1] 25 (0, 0)) Z)
    have HBT := Aside0.mk (blk_below HT4.out hZ)
    have hp2 : 0 < 2 ^ t.length := Nat.two_pow_pos _
    have hp5 : 2 ^ t.length ≤ 512 := by rw [show (512 : Nat) = 2 ^ 9 from rfl]; exact Nat.pow_le_pow_right (by decide) hg.n9
    have HDN : Aside0 (Down (fun m => ∃ x ∈ sets acts, keptN t acts tol x = m) t.length T (2 ^ t.length - 1)) := ⟨⟨fun m hm => by
        obtain ⟨s, hs, e⟩ := (HTT.out m).1 hm
        exact ⟨m, ⟨s, hs, e⟩, fun _ h => h⟩, fun k hk => (HTT.out k).2 hk, fun m h1 h2 => by omega⟩⟩
    have HKL : Aside0 (∀ k, (fun m => ∃ x ∈ sets acts, keptN t acts tol x = m) k → k < 2 ^ t.length) := ⟨by rintro k ⟨x, _, rfl⟩; exact setOf_lt _ _⟩
    generalize hpn : 2 ^ t.length = pn at *
    have HPN := Aside0.mk hpn
    clear HB4 HX4 HD4 HR4 HT4 HTT hZ xc0 xc1 hpn hlt4
    go_loopw [10] (fun v10 wr => ∃ (s : Nat) (T : Nat → Bool), v10 = .int .i64 s ∧ s < pn ∧ Aside0 (Down (fun m => ∃ x ∈ sets acts, keptN t acts tol x = m) t.length T s) ∧ Aside0 (wr.heap[n + 1]? = some (.cells (bools T) 87 (0, 0))) ∧ Aside0 (CF w n (.cells #[.slice A0 t.length c0, .slice A1 acts.length c1] 81 (0, 0)) (.cells #[.slice A0 t.length c0, .slice A1 acts.length c1] 25 (0, 0)) wr)) (fun v10 _ => (intOf v10).toNat)
    case atStart => exact ⟨pn - 1, T, by congr 1, by omega, HDN, HBT, HC⟩
    case round =>
      obtain ⟨s, T, rfl, hs, HD, HT, HC⟩ := hrel
      clear HDN HBT
      obtain _ | s := s
      · have hTc : ∀ m, 1 ≤ m → m ≤ pn - 1 → T m = canB t acts tol m := fun m _ _ => by
          rw [Bool.eq_iff_iff, canB_iff]
          refine HD.out.all hg.n9 ?_ m
          intro k hk
          rw [HPN.out]
          exact HKL.out k hk
        have HTC := Aside0.mk hTc
        clear hTc HD
        go_wp2
        have hpn9 : pn ≤ 512 := hp5
        go_loopw [12, 13] (fun v12 v13 W1 => Lst w n pn (.cells #[.slice A0 t.length c0, .slice A1 acts.length c1] 81 (0, 0)) (.cells #[.slice A0 t.length c0, .slice A1 acts.length c1] 25 (0, 0)) T v12 v13 W1) (fun _ v13 _ => pn - (intOf v13).toNat)
        case atStart => exact lst_none (k := 0) hp2 HT.out HC.out rfl
        case round =>
          clear HT HC
          obtain ⟨k, rfl, hk, HT, HC, hbest⟩ := hrel
          by_cases hlast : k = pn - 1
          · have hc1 : ¬ ((k : Int) + 1 ≤ ((pn - 1 : Nat) : Int)) := by omega
            have rx0 : wr.cell? ⟨n, 0, none⟩ = some (.slice A0 t.length c0) := by simp [World.cell?, HC.out.bx]
            have rx1 : wr.cell? ⟨n, 1, none⟩ = some (.slice A1 acts.length c1) := by simp [World.cell?, HC.out.bx]
            have hfin : contraL t acts tol = bestC T k := by unfold contraL; rw [HPN.out, ← hlast]; exact (bestC_congr T _ k (fun m h1 h2 => HTC.out m h1 (by omega))).symm
            have HF := Aside0.mk hfin
            clear hfin
            rcases hbest with ⟨hb1, rfl⟩ | ⟨b, gb, cb, hb1, rfl, HBO, hb9⟩
            · rw [hb1] at HF
              clear hb1
              go_wp2_with (first | (go_at_call 39; refine (EV.out _ HC.out.bel).mono ?_; rintro e Z2 ⟨rfl, hZ2⟩) | (go_at_call 42; refine (unless_any _ _ _).mono ?_; rintro e w5 ⟨rfl, rfl⟩))
              have HC2 := CF.below HC.out hZ2
              refine marks_ret (D := n + 1 + 1) HC2.df (results_tmp2 rfl _ _ _) ?_
              exact .inr ⟨rfl, HF.out, below_put HC2.bel (by omega) _⟩
            · rw [hb1] at HF
              clear hb1
              go_wp2_with (first | (go_at_call 39; refine (EV.out _ HC.out.bel).mono ?_; rintro e Z2 ⟨rfl, hZ2⟩) | (go_at_call 42; refine (unless_any _ _ _).mono ?_; rintro e w5 ⟨rfl, rfl⟩))
              have HC2 := CF.below HC.out hZ2
              refine marks_ret (D := n + 1 + 1) HC2.df (results_tmp2 rfl _ _ _) ?_
              exact .inl ⟨_, b, rfl, HF.out, own_move (own_below HBO.out hZ2) (fun k hk => World.putObj_heap_other (own_notdef (own_below HBO.out hZ2) HC2.df k hk)), below_put HC2.bel (by omega) _⟩
          · have hc1 : ((k : Int) + 1 ≤ ((pn - 1 : Nat) : Int)) := by omega
            have hk1 := stepK hk hlast
            have hk5 : k + 1 < 512 := by omega
            have hlL : (posN (k + 1)).length ≤ 1000 := Nat.le_trans (posIn_length (k + 1) 9) (by decide)
            have hk6 : (k : Int) + 1 < 512 := by omega
            have hk7 : (0 : Int) ≤ (k : Int) + 1 := by omega
            have hk8 : ((k : Int) + 1).toNat = k + 1 := by omega
            have rx0 : wr.cell? ⟨n, 0, none⟩ = some (.slice A0 t.length c0) := by simp [World.cell?, HC.out.bx]
            have rx1 : wr.cell? ⟨n, 1, none⟩ = some (.slice A1 acts.length c1) := by simp [World.cell?, HC.out.bx]
            cases hTk : T (k + 1) with
            | true =>
              rcases hbest with ⟨hb1, rfl⟩ | ⟨b, gb, cb, hb1, rfl, HBO, hb9⟩
              · have HN := Aside0.mk (bestC_skip hTk hb1)
                clear hb1
                go_wp2_with (go_at_call 39; refine (EV.out _ HC.out.bel).mono ?_; rintro e Z2 ⟨rfl, hZ2⟩; have zT := blk_below HT.out hZ2; have zcell := bools_cell zT (k + 1) hk5; rw [hTk] at zcell)
                exact ⟨lst_none hk1 zT (CF.below HC.out hZ2) HN.out, stepM hk1⟩
              · have HN := Aside0.mk (bestC_skip hTk hb1)
                clear hb1
                go_wp2_with (go_at_call 39; refine (EV.out _ HC.out.bel).mono ?_; rintro e Z2 ⟨rfl, hZ2⟩; have zT := blk_below HT.out hZ2; have zcell := bools_cell zT (k + 1) hk5; rw [hTk] at zcell)
                exact ⟨lst_some hk1 zT (CF.below HC.out hZ2) HN.out (own_below HBO.out hZ2) hb9, stepM hk1⟩
            | false =>
              rcases hbest with ⟨hb1, rfl⟩ | ⟨b, gb, cb, hb1, rfl, HBO, hb9⟩
              · have HN := Aside0.mk (bestC_first hTk hb1)
                clear hb1
                go_wp2_with (first | (go_at_call 39; refine (EV.out _ HC.out.bel).mono ?_; rintro e Z2 ⟨rfl, hZ2⟩; have zT := blk_below HT.out hZ2; have zcell := bools_cell zT (k + 1) hk5; rw [hTk] at zcell) | (go_at_call 40; refine (pos_at (k + 1) hk5 (Nat.succ_le_succ (Nat.zero_le k)) (by simp) _).mono ?_; rintro e V ⟨gl, cl, rfl, hvown, hV⟩))
                exact ⟨lst_some hk1 (blk_below zT hV) (CF.below (CF.below HC.out hZ2) hV) HN.out (own_low hvown (CF.below HC.out hZ2).bel.size) (pos_le9 _), stepM hk1⟩
              · by_cases hlt : (posN (k + 1)).length < b.length
                · have HN := Aside0.mk (bestC_take hTk hb1 (.inl hlt))
                  clear hb1
                  go_wp2_with (first | (go_at_call 39; refine (EV.out _ HC.out.bel).mono ?_; rintro e Z2 ⟨rfl, hZ2⟩; have zT := blk_below HT.out hZ2; have zcell := bools_cell zT (k + 1) hk5; rw [hTk] at zcell) | (go_at_call 40; refine (pos_at (k + 1) hk5 (Nat.succ_le_succ (Nat.zero_le k)) (by simp) _).mono ?_; rintro e V ⟨gl, cl, rfl, hvown, hV⟩))
                  exact ⟨lst_some hk1 (blk_below zT hV) (CF.below (CF.below HC.out hZ2) hV) HN.out (own_low hvown (CF.below HC.out hZ2).bel.size) (pos_le9 _), stepM hk1⟩
                · by_cases hleq : (posN (k + 1)).length = b.length
                  · by_cases hcmp : cmpL (posN (k + 1)) b < 0
                    · have HN := Aside0.mk (bestC_take hTk hb1 (.inr ⟨hleq, hcmp⟩))
                      clear hb1
                      go_wp2_with (first | (go_at_call 39; refine (EV.out _ HC.out.bel).mono ?_; rintro e Z2 ⟨rfl, hZ2⟩; have zT := blk_below HT.out hZ2; have zcell := bools_cell zT (k + 1) hk5; rw [hTk] at zcell) | (go_at_call 40; refine (pos_at (k + 1) hk5 (Nat.succ_le_succ (Nat.zero_le k)) (by simp) _).mono ?_; rintro e V ⟨gl, cl, rfl, hvown, hV⟩))
                      refine (compare_len gl gb cl cb _ (posN (k + 1)) b _ hleq hvown (own_below (own_below HBO.out hZ2) hV) hlL).mono ?_
                      rintro e V2 ⟨rfl, q, rfl⟩
                      go_wp2
                      have hl := lst_some hk1 (W1 := V.drewN q) (blk_below zT (pw_below_drewN hV q)) (CF.drewN (CF.below (CF.below HC.out hZ2) hV) q) HN.out (own_drewN (own_low hvown (CF.below HC.out hZ2).bel.size) q) (pos_le9 _)
                      rw [hleq] at hl
                      exact ⟨hl, stepM hk1⟩
                    · have HN := Aside0.mk (bestC_leave hTk hb1 (fun h => h.elim hlt (fun h => hcmp h.2)))
                      clear hb1
                      go_wp2_with (first | (go_at_call 39; refine (EV.out _ HC.out.bel).mono ?_; rintro e Z2 ⟨rfl, hZ2⟩; have zT := blk_below HT.out hZ2; have zcell := bools_cell zT (k + 1) hk5; rw [hTk] at zcell) | (go_at_call 40; refine (pos_at (k + 1) hk5 (Nat.succ_le_succ (Nat.zero_le k)) (by simp) _).mono ?_; rintro e V ⟨gl, cl, rfl, hvown, hV⟩))
                      refine (compare_len gl gb cl cb _ (posN (k + 1)) b _ hleq hvown (own_below (own_below HBO.out hZ2) hV) hlL).mono ?_
                      rintro e V2 ⟨rfl, q, rfl⟩
                      go_wp2
                      exact ⟨lst_some hk1 (W1 := V.drewN q) (blk_below zT (pw_below_drewN hV q)) (CF.drewN (CF.below (CF.below HC.out hZ2) hV) q) HN.out (own_drewN (own_below (own_below HBO.out hZ2) hV) q) hb9, stepM hk1⟩
                  · have HN := Aside0.mk (bestC_leave hTk hb1 (fun h => h.elim hlt (fun h => hleq h.1)))
                    clear hb1
                    go_wp2_with (first | (go_at_call 39; refine (EV.out _ HC.out.bel).mono ?_; rintro e Z2 ⟨rfl, hZ2⟩; have zT := blk_below HT.out hZ2; have zcell := bools_cell zT (k + 1) hk5; rw [hTk] at zcell) | (go_at_call 40; refine (pos_at (k + 1) hk5 (Nat.succ_le_succ (Nat.zero_le k)) (by simp) _).mono ?_; rintro e V ⟨gl, cl, rfl, hvown, hV⟩))
                    exact ⟨lst_some hk1 (blk_below zT hV) (CF.below (CF.below HC.out hZ2) hV) HN.out (own_below (own_below HBO.out hZ2) hV) hb9, stepM hk1⟩
      · have ro : wr.cell? ⟨w.heap.size, 0, none⟩ = some (.slice A0 t.length c0) := by simp [World.cell?, HC.out.rb]
        go_wp2
        go_loopw [41] (fun v41 W1 => ∃ (i : Nat) (T : Nat → Bool), v41 = .int .i64 i ∧ i ≤ t.length ∧ Aside0 (Down (fun m => ∃ x ∈ sets acts, keptN t acts tol x = m) t.length T (s + 1)) ∧ Aside0 (W1.heap[n + 1]? = some (.cells (bools T) 87 (0, 0))) ∧ Aside0 (CF w n (.cells #[.slice A0 t.length c0, .slice A1 acts.length c1] 81 (0, 0)) (.cells #[.slice A0 t.length c0, .slice A1 acts.length c1] 25 (0, 0)) W1) ∧ Aside0 (T (s + 1) = true → ∀ j < i, T (clr (s + 1) j) = true)) (fun v41 _ => t.length - (intOf v41).toNat)
        case atStart => exact ⟨0, T, rfl, Nat.zero_le _, HD, HT, HC, ⟨fun _ j hj => by omega⟩⟩
        case round =>
          obtain ⟨i, T, rfl, hi, HD, HT, HC, HL⟩ := hrel
          by_cases hlt : i < t.length
          · have hcl : clr (s + 1) i ≤ s + 1 := clr_le _ _
            have hcb : Go.bits .andNot .i64 ((s : Int) + 1) (IntKind.i64.wrap (2 ^ min i 64)) = ((clr (s + 1) i : Nat) : Int) := by have := clr_bit (s + 1) (by omega) i (by have := hg.n9; omega); simpa [shl, clr, IntKind.bits] using this
            have hcl6 : ((clr (s + 1) i : Nat) : Int) < 512 := by omega
            have hs6 : (s : Int) + 1 < 512 := by omega
            have hs7 : (0 : Int) ≤ (s : Int) + 1 := by omega
            have hs8 : ((s : Int) + 1).toNat = s + 1 := by omega
            have hq1 := bools_cell HT.out (clr (s + 1) i) (by omega)
            have hq2 := bools_cell HT.out (s + 1) (by omega)
            have hq3 := bools_frozen HT.out (clr (s + 1) i)
            cases hTc : T (clr (s + 1) i) with
            | true =>
              rw [hTc] at hq1
              go_wp2
              refine wp_noPanic ?_
              refine wp_region_held_drew (S := (fun _ => True)) (by kernel_rfl) ?_ (fun hHeld => ?_)
              · exact trivial
              refine takeT (i := 0) (d := 44) (v := ?_) rfl rfl (by kernel_rfl) (by kernel_rfl) (by kernel_rfl) (fun _ _ _ h => h) (Or.inl ⟨rfl, fun w hSw => ?_⟩) (by assumption) ?_
              rotate_left
              · (try dsimp only at hSw); simp only [List.getElem_toArray, List.getElem_cons_zero, List.getElem_cons_succ]; go_simp <;> with_reducible rfl
              simp only [List.setIfInBounds_toArray, List.set_cons_zero, List.set_cons_succ]
              refine takeT (i := 1) (d := 45) (v := ?_) rfl rfl (by kernel_rfl) (by kernel_rfl) (by kernel_rfl) (fun _ _ _ h => h) (Or.inl ⟨rfl, fun w hSw => ?_⟩) (by assumption) ?_
              rotate_left
              · (try dsimp only at hSw); simp only [List.getElem_toArray, List.getElem_cons_zero, List.getElem_cons_succ]; go_simp <;> with_reducible rfl
              simp only [List.setIfInBounds_toArray, List.set_cons_zero, List.set_cons_succ]
              refine takeT (i := 2) (d := 46) (v := ?_) rfl rfl (by kernel_rfl) (by kernel_rfl) (by kernel_rfl) (fun _ _ _ h => h) (Or.inl ⟨rfl, fun w hSw => ?_⟩) (by assumption) ?_
              rotate_left
              · (try dsimp only at hSw); simp only [List.getElem_toArray, List.getElem_cons_zero, List.getElem_cons_succ]; go_simp <;> with_reducible rfl
              simp only [List.setIfInBounds_toArray, List.set_cons_zero, List.set_cons_succ]
              refine takeT (i := 3) (d := 47) (v := ?_) rfl rfl (by kernel_rfl) (by kernel_rfl) (by kernel_rfl) (fun _ _ _ h => h) (Or.inl ⟨rfl, fun w hSw => ?_⟩) (by assumption) ?_
              rotate_left
              · (try dsimp only at hSw); simp only [List.getElem_toArray, List.getElem_cons_zero, List.getElem_cons_succ]; go_simp <;> with_reducible rfl
              simp only [List.setIfInBounds_toArray, List.set_cons_zero, List.set_cons_succ]
              refine takeT (i := 4) (d := 48) (v := ?_) rfl rfl (by kernel_rfl) (by kernel_rfl) (by kernel_rfl) (fun _ _ _ h => h) (Or.inl ⟨rfl, fun w hSw => ?_⟩) (by assumption) ?_
              rotate_left
              · (try dsimp only at hSw); simp only [List.getElem_toArray, List.getElem_cons_zero, List.getElem_cons_succ]; go_simp <;> with_reducible rfl
              simp only [List.setIfInBounds_toArray, List.set_cons_zero, List.set_cons_succ]
              refine takeT (i := 5) (d := 49) (v := ?_) rfl rfl (by kernel_rfl) (by kernel_rfl) (by kernel_rfl) (fun _ _ _ h => h) (Or.inl ⟨rfl, fun w hSw => ?_⟩) (by assumption) ?_
              rotate_left
              · (try dsimp only at hSw); simp only [List.getElem_toArray, List.getElem_cons_zero, List.getElem_cons_succ]; go_simp <;> with_reducible rfl
              simp only [List.setIfInBounds_toArray, List.set_cons_zero, List.set_cons_succ]
              refine takeT (i := 6) (d := 50) (v := ?_) rfl rfl (by kernel_rfl) (by kernel_rfl) (by kernel_rfl) (fun _ _ _ h => h) (Or.inl ⟨rfl, fun w hSw => ?_⟩) (by assumption) ?_
              rotate_left
              · (try dsimp only at hSw); simp only [List.getElem_toArray, List.getElem_cons_zero, List.getElem_cons_succ]; go_simp <;> with_reducible rfl
              simp only [List.setIfInBounds_toArray, List.set_cons_zero, List.set_cons_succ]
              refine takeT (i := 7) (d := 51) (v := ?_) rfl rfl (by kernel_rfl) (by kernel_rfl) (by kernel_rfl) (fun _ _ _ h => h) (Or.inl ⟨rfl, fun w hSw => ?_⟩) (by assumption) ?_
              rotate_left
              · (try dsimp only at hSw); simp only [List.getElem_toArray, List.getElem_cons_zero, List.getElem_cons_succ]; go_simp <;> with_reducible rfl
              simp only [List.setIfInBounds_toArray, List.set_cons_zero, List.set_cons_succ]
              refine takeT (i := 8) (d := 52) (v := ?_) rfl rfl (by kernel_rfl) (by kernel_rfl) (by kernel_rfl) (fun _ _ _ h => h) (Or.inl ⟨rfl, fun w hSw => ?_⟩) (by assumption) ?_
              rotate_left
              · (try dsimp only at hSw); simp only [List.getElem_toArray, List.getElem_cons_zero, List.getElem_cons_succ]; go_simp <;> with_reducible rfl
              simp only [List.setIfInBounds_toArray, List.set_cons_zero, List.set_cons_succ]
              refine wpAnyH_ready (rs := [9]) (by kernel_rfl) (by simp) ?_
              refine AllReadyH.cons rfl (fun K hK => ?_) ?_
              · simp only [List.getElem_toArray, List.getElem_cons_zero, List.getElem_cons_succ]; go_simp
                refine hK.out _ _ ?_ ?_
                · exact trivial
                clear hHeld hK K; intro hHeld
                try simp only [Act.put, List.setIfInBounds_toArray, List.set_cons_zero, List.set_cons_succ]
                refine takeT (i := 10) (d := 54) (v := ?_) rfl rfl (by kernel_rfl) (by kernel_rfl) (by kernel_rfl) (fun _ _ _ h => h) (Or.inl ⟨rfl, fun w hSw => ?_⟩) (by assumption) ?_
                rotate_left
                · (try dsimp only at hSw); simp only [List.getElem_toArray, List.getElem_cons_zero, List.getElem_cons_succ]; go_simp <;> with_reducible rfl
                simp only [List.setIfInBounds_toArray, List.set_cons_zero, List.set_cons_succ]
                refine takeT (i := 11) (d := 55) (v := undef) rfl rfl (by kernel_rfl) (by kernel_rfl) (by kernel_rfl) (fun _ _ _ h => h) (Or.inr ⟨rfl, rfl⟩) (by assumption) ?_
                simp only [List.setIfInBounds_toArray, List.set_cons_zero, List.set_cons_succ]
                refine takeT (i := 12) (d := 56) (v := undef) rfl rfl (by kernel_rfl) (by kernel_rfl) (by kernel_rfl) (fun _ _ _ h => h) (Or.inr ⟨rfl, rfl⟩) (by assumption) ?_
                simp only [List.setIfInBounds_toArray, List.set_cons_zero, List.set_cons_succ]
                refine takeT (i := 13) (d := 57) (v := undef) rfl rfl (by kernel_rfl) (by kernel_rfl) (by kernel_rfl) (fun _ _ _ h => h) (Or.inr ⟨rfl, rfl⟩) (by assumption) ?_
                simp only [List.setIfInBounds_toArray, List.set_cons_zero, List.set_cons_succ]
                refine takeT (i := 14) (d := 58) (v := ?_) rfl rfl (by kernel_rfl) (by kernel_rfl) (by kernel_rfl) (fun _ _ _ h => h) (Or.inl ⟨rfl, fun w hSw => ?_⟩) (by assumption) ?_
                rotate_left
                · (try dsimp only at hSw); simp only [List.getElem_toArray, List.getElem_cons_zero, List.getElem_cons_succ]; go_simp <;> with_reducible rfl
                simp only [List.setIfInBounds_toArray, List.set_cons_zero, List.set_cons_succ]
                refine takeT (i := 15) (d := 59) (v := ?_) rfl rfl (by kernel_rfl) (by kernel_rfl) (by kernel_rfl) (fun _ _ _ h => h) (Or.inl ⟨rfl, fun w hSw => ?_⟩) (by assumption) ?_
                rotate_left
                · (try dsimp only at hSw); simp only [List.getElem_toArray, List.getElem_cons_zero, List.getElem_cons_succ]; go_simp <;> with_reducible rfl
                simp only [List.setIfInBounds_toArray, List.set_cons_zero, List.set_cons_succ]
                refine wpAnyH_ready (rs := [16]) (by kernel_rfl) (by simp) ?_
                refine AllReadyH.cons rfl (fun K hK => ?_) ?_
                · simp only [List.getElem_toArray, List.getElem_cons_zero, List.getElem_cons_succ]; go_simp
                  refine hK.out _ _ ?_ ?_
                  · exact trivial
                  clear hHeld hK K; intro hHeld
                  try simp only [Act.put, List.setIfInBounds_toArray, List.set_cons_zero, List.set_cons_succ]
                  refine wpAnyH_done (by kernel_rfl) ?_ _
                  refine noPanic_normal ?_
                  have heq : (T (clr (s + 1) i) || T (s + 1)) = true := by rw [hTc]; rfl
                  clear hq1 hq2 hq3 hcb hcl6 hs6 hs7 hs8 hcl hHeld
                  go_wp2
                  have hw : wrap64 ((i : Int) + 1) = ((i + 1 : Nat) : Int) := by have := hg.n9; unfold wrap64; omega
                  rw [hw]
                  refine ⟨⟨i + 1, orAt T (s + 1) i, rfl, hlt, ⟨HD.out.orAt i⟩, ⟨orAt_store HT.out _ heq⟩, ⟨(CF.store HC.out (by omega) _ _).drew⟩, ⟨lower_store HL.out⟩⟩, by simp only [intOf, Int.toNat_natCast]; exact Nat.sub_lt_sub_left hlt (Nat.lt_succ_self i)⟩
                exact AllReadyH.nil
              exact AllReadyH.nil

            | false =>
              rw [hTc] at hq1
              go_wp2
              refine wp_noPanic ?_
              refine wp_region_held_drew (S := (fun _ => True)) (by kernel_rfl) ?_ (fun hHeld => ?_)
              · exact trivial
              refine takeT (i := 0) (d := 44) (v := ?_) rfl rfl (by kernel_rfl) (by kernel_rfl) (by kernel_rfl) (fun _ _ _ h => h) (Or.inl ⟨rfl, fun w hSw => ?_⟩) (by assumption) ?_
              rotate_left
              · (try dsimp only at hSw); simp only [List.getElem_toArray, List.getElem_cons_zero, List.getElem_cons_succ]; go_simp <;> with_reducible rfl
              simp only [List.setIfInBounds_toArray, List.set_cons_zero, List.set_cons_succ]
              refine takeT (i := 1) (d := 45) (v := ?_) rfl rfl (by kernel_rfl) (by kernel_rfl) (by kernel_rfl) (fun _ _ _ h => h) (Or.inl ⟨rfl, fun w hSw => ?_⟩) (by assumption) ?_
              rotate_left
              · (try dsimp only at hSw); simp only [List.getElem_toArray, List.getElem_cons_zero, List.getElem_cons_succ]; go_simp <;> with_reducible rfl
              simp only [List.setIfInBounds_toArray, List.set_cons_zero, List.set_cons_succ]
              refine takeT (i := 2) (d := 46) (v := ?_) rfl rfl (by kernel_rfl) (by kernel_rfl) (by kernel_rfl) (fun _ _ _ h => h) (Or.inl ⟨rfl, fun w hSw => ?_⟩) (by assumption) ?_
              rotate_left
              · (try dsimp only at hSw); simp only [List.getElem_toArray, List.getElem_cons_zero, List.getElem_cons_succ]; go_simp <;> with_reducible rfl
              simp only [List.setIfInBounds_toArray, List.set_cons_zero, List.set_cons_succ]
              refine takeT (i := 3) (d := 47) (v := ?_) rfl rfl (by kernel_rfl) (by kernel_rfl) (by kernel_rfl) (fun _ _ _ h => h) (Or.inl ⟨rfl, fun w hSw => ?_⟩) (by assumption) ?_
              rotate_left
              · (try dsimp only at hSw); simp only [List.getElem_toArray, List.getElem_cons_zero, List.getElem_cons_succ]; go_simp <;> with_reducible rfl
              simp only [List.setIfInBounds_toArray, List.set_cons_zero, List.set_cons_succ]
              refine takeT (i := 4) (d := 48) (v := ?_) rfl rfl (by kernel_rfl) (by kernel_rfl) (by kernel_rfl) (fun _ _ _ h => h) (Or.inl ⟨rfl, fun w hSw => ?_⟩) (by assumption) ?_
              rotate_left
              · (try dsimp only at hSw); simp only [List.getElem_toArray, List.getElem_cons_zero, List.getElem_cons_succ]; go_simp <;> with_reducible rfl
              simp only [List.setIfInBounds_toArray, List.set_cons_zero, List.set_cons_succ]
              refine takeT (i := 5) (d := 49) (v := ?_) rfl rfl (by kernel_rfl) (by kernel_rfl) (by kernel_rfl) (fun _ _ _ h => h) (Or.inl ⟨rfl, fun w hSw => ?_⟩) (by assumption) ?_
              rotate_left
              · (try dsimp only at hSw); simp only [List.getElem_toArray, List.getElem_cons_zero, List.getElem_cons_succ]; go_simp <;> with_reducible rfl
              simp only [List.setIfInBounds_toArray, List.set_cons_zero, List.set_cons_succ]
              refine takeT (i := 6) (d := 50) (v := ?_) rfl rfl (by kernel_rfl) (by kernel_rfl) (by kernel_rfl) (fun _ _ _ h => h) (Or.inl ⟨rfl, fun w hSw => ?_⟩) (by assumption) ?_
              rotate_left
              · (try dsimp only at hSw); simp only [List.getElem_toArray, List.getElem_cons_zero, List.getElem_cons_succ]; go_simp <;> with_reducible rfl
              simp only [List.setIfInBounds_toArray, List.set_cons_zero, List.set_cons_succ]
              refine takeT (i := 7) (d := 51) (v := ?_) rfl rfl (by kernel_rfl) (by kernel_rfl) (by kernel_rfl) (fun _ _ _ h => h) (Or.inl ⟨rfl, fun w hSw => ?_⟩) (by assumption) ?_
              rotate_left
              · (try dsimp only at hSw); simp only [List.getElem_toArray, List.getElem_cons_zero, List.getElem_cons_succ]; go_simp <;> with_reducible rfl
              simp only [List.setIfInBounds_toArray, List.set_cons_zero, List.set_cons_succ]
              refine takeT (i := 8) (d := 52) (v := ?_) rfl rfl (by kernel_rfl) (by kernel_rfl) (by kernel_rfl) (fun _ _ _ h => h) (Or.inl ⟨rfl, fun w hSw => ?_⟩) (by assumption) ?_
              rotate_left
              · (try dsimp only at hSw); simp only [List.getElem_toArray, List.getElem_cons_zero, List.getElem_cons_succ]; go_simp <;> with_reducible rfl
              simp only [List.setIfInBounds_toArray, List.set_cons_zero, List.set_cons_succ]
              refine wpAnyH_ready (rs := [9]) (by kernel_rfl) (by simp) ?_
              refine AllReadyH.cons rfl (fun K hK => ?_) ?_
              · simp only [List.getElem_toArray, List.getElem_cons_zero, List.getElem_cons_succ]; go_simp
                refine hK.out _ _ ?_ ?_
                · exact trivial
                clear hHeld hK K; intro hHeld
                try simp only [Act.put, List.setIfInBounds_toArray, List.set_cons_zero, List.set_cons_succ]
                refine takeT (i := 10) (d := 54) (v := ?_) rfl rfl (by kernel_rfl) (by kernel_rfl) (by kernel_rfl) (fun _ _ _ h => h) (Or.inl ⟨rfl, fun w hSw => ?_⟩) (by assumption) ?_
                rotate_left
                · (try dsimp only at hSw); simp only [List.getElem_toArray, List.getElem_cons_zero, List.getElem_cons_succ]; go_simp <;> with_reducible rfl
                simp only [List.setIfInBounds_toArray, List.set_cons_zero, List.set_cons_succ]
                refine takeT (i := 11) (d := 55) (v := ?_) rfl rfl (by kernel_rfl) (by kernel_rfl) (by kernel_rfl) (fun _ _ _ h => h) (Or.inl ⟨rfl, fun w hSw => ?_⟩) (by assumption) ?_
                rotate_left
                · (try dsimp only at hSw); simp only [List.getElem_toArray, List.getElem_cons_zero, List.getElem_cons_succ]; go_simp <;> with_reducible rfl
                simp only [List.setIfInBounds_toArray, List.set_cons_zero, List.set_cons_succ]
                refine takeT (i := 12) (d := 56) (v := ?_) rfl rfl (by kernel_rfl) (by kernel_rfl) (by kernel_rfl) (fun _ _ _ h => h) (Or.inl ⟨rfl, fun w hSw => ?_⟩) (by assumption) ?_
                rotate_left
                · (try dsimp only at hSw); simp only [List.getElem_toArray, List.getElem_cons_zero, List.getElem_cons_succ]; go_simp <;> with_reducible rfl
                simp only [List.setIfInBounds_toArray, List.set_cons_zero, List.set_cons_succ]
                refine wpAnyH_ready (rs := [13]) (by kernel_rfl) (by simp) ?_
                refine AllReadyH.cons rfl (fun K hK => ?_) ?_
                · simp only [List.getElem_toArray, List.getElem_cons_zero, List.getElem_cons_succ]; go_simp
                  refine hK.out _ _ ?_ ?_
                  · exact trivial
                  clear hHeld hK K; intro hHeld
                  try simp only [Act.put, List.setIfInBounds_toArray, List.set_cons_zero, List.set_cons_succ]
                  refine takeT (i := 14) (d := 58) (v := ?_) rfl rfl (by kernel_rfl) (by kernel_rfl) (by kernel_rfl) (fun _ _ _ h => h) (Or.inl ⟨rfl, fun w hSw => ?_⟩) (by assumption) ?_
                  rotate_left
                  · (try dsimp only at hSw); simp only [List.getElem_toArray, List.getElem_cons_zero, List.getElem_cons_succ]; go_simp <;> with_reducible rfl
                  simp only [List.setIfInBounds_toArray, List.set_cons_zero, List.set_cons_succ]
                  refine takeT (i := 15) (d := 59) (v := ?_) rfl rfl (by kernel_rfl) (by kernel_rfl) (by kernel_rfl) (fun _ _ _ h => h) (Or.inl ⟨rfl, fun w hSw => ?_⟩) (by assumption) ?_
                  rotate_left
                  · (try dsimp only at hSw); simp only [List.getElem_toArray, List.getElem_cons_zero, List.getElem_cons_succ]; go_simp <;> with_reducible rfl
                  simp only [List.setIfInBounds_toArray, List.set_cons_zero, List.set_cons_succ]
                  refine wpAnyH_ready (rs := [16]) (by kernel_rfl) (by simp) ?_
                  refine AllReadyH.cons rfl (fun K hK => ?_) ?_
                  · simp only [List.getElem_toArray, List.getElem_cons_zero, List.getElem_cons_succ]; go_simp
                    refine hK.out _ _ ?_ ?_
                    · exact trivial
                    clear hHeld hK K; intro hHeld
                    try simp only [Act.put, List.setIfInBounds_toArray, List.set_cons_zero, List.set_cons_succ]
                    refine wpAnyH_done (by kernel_rfl) ?_ _
                    refine noPanic_normal ?_
                    have heq : (T (clr (s + 1) i) || T (s + 1)) = T (s + 1) := by rw [hTc]; rfl
                    clear hq1 hq2 hq3 hcb hcl6 hs6 hs7 hs8 hcl hHeld
                    go_wp2
                    have hw : wrap64 ((i : Int) + 1) = ((i + 1 : Nat) : Int) := by have := hg.n9; unfold wrap64; omega
                    rw [hw]
                    refine ⟨⟨i + 1, orAt T (s + 1) i, rfl, hlt, ⟨HD.out.orAt i⟩, ⟨orAt_store HT.out _ heq⟩, ⟨(CF.store HC.out (by omega) _ _).drew⟩, ⟨lower_store HL.out⟩⟩, by simp only [intOf, Int.toNat_natCast]; exact Nat.sub_lt_sub_left hlt (Nat.lt_succ_self i)⟩
                  exact AllReadyH.nil
                exact AllReadyH.nil
              exact AllReadyH.nil

          · go_wp2
            refine ⟨⟨s, T, by congr 1, by omega, ⟨HD.out.next (fun h => by have : i = t.length := (by omega); subst this; exact HL.out h)⟩, HT, HC⟩, by simp only [intOf]; omega⟩
end Go.Proofs.Ytbijfhmpafjceaa.E
