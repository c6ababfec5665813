import Derived.Test.YtbijfhmpafjceaaE9
set_option linter.unusedVariables false
set_option linter.unusedSimpArgs false
namespace Go.Proofs.Ytbijfhmpafjceaa.E
open Go.RowKit Go.Proofs.YtbijfhmpafjceaaW.PrintWords Go.Proofs.YtbijfhmpafjceaaW.PrintMore Go.Proofs.Ytbijfhmpafjceaa.PFlatKept
theorem wide_fn (f : Nat) : Fence.wide.fn f = True := rfl
theorem wide_depth : Fence.wide.depth = none := rfl
attribute [local go_sem] Oper.semAt_some eql22 wide_fn wide_depth

/-- The best settings so far, and their maximum. -/
def bestStep (t : List Int) (acts : List S39) (b : Option (List Int × Int)) (s : List Int) : Option (List Int × Int) :=
  match b with
  | none => some (s, maxd t acts s)
  | some (b0, l0) => if maxd t acts s < l0 then some (s, maxd t acts s) else some (b0, l0)
def bestIn (t : List Int) (acts : List S39) (S : List (List Int)) : Option (List Int × Int) := S.foldl (bestStep t acts) none

theorem calls_of_marks {P : Program} {f : FuncId} {fn : Func} {c : Code} {args : Array Value} {w : World} {R : Ending → World → Prop} (hf : P.funcs[f]? = some fn) (hb : fn.body = some c)
    (h : c.wp P (bodyPostM Fence.wide 1 P fn R) { tmps := args ++ Array.replicate (fn.ntmps - args.size) undef, defers := [] } w) : Calls P f args w R :=
  (callsIn_wide (n := 1)).1 (callsIn_of_wp_marks hf hb trivial (wpIn_wide.2 h) rfl)
theorem marks_ret {P : Program} {fn : Func} {R : Ending → World → Prop} {tmps : Array Value} {D : Nat} {W : World} {v : Value} (hD : W.heap[D]? = some (.deferred (some [])))
    (hr : (results fn tmps).run P (W.putObj D (.deferred none)) = .ok v (W.putObj D (.deferred none))) (hR : R (.returned v) (W.putObj D (.deferred none))) :
    bodyPostM Fence.wide 1 P fn R .ret { tmps := tmps, defers := [{ target := .collected D, args := #[] }] } W :=
  ⟨by simp, .inl ⟨_, _, rfl, run_takeDeferred hD, ⟨v, hr, hR⟩⟩⟩

/-- Q, but for a panic. -/
def noPanic (Q : Exit → Act → World → Prop) : Exit → Act → World → Prop
  | .panic _, _, _ => False
  | e, a, w => Q e a w
theorem wp_noPanic {P : Program} {c : Code} {Q : Exit → Act → World → Prop} {a : Act} {w : World} (h : c.wp P (noPanic Q) a w) : c.wp P Q a w :=
  wp_mono h (fun e a w h => by cases e <;> first | exact h | exact h.elim)
theorem noPanic_normal {Q : Exit → Act → World → Prop} {a : Act} {w : World} (h : Q .normal a w) : noPanic Q .normal a w := h

theorem round_of {P : Program} {l m : Nat} {fn : FuncId} {a : Act} {ps : Array Tmp} {assign body : Code} {d : Nat} {X : World} {args : Array Value} {R : Ending → World → Prop} {rec : LoopState → Option Code → Loop}
    (hr : recOf fn a ps assign body d = rec) (hl : X.heap[l]? = some (.loop (rec .ready none))) (hs : args.size = ps.size)
    (h : assign.wpIn (Fence.wide.inRound l) m P (Exit.then (fun a1 W1 => W1.heap[l]? = some (.loop (rec .ready none)) ∧
        body.wpIn (Fence.wide.inRound l) m P (roundQ rec l R) a1 (W1.putObj l (.loop (rec .busy none)))) (fun _ _ _ => False))
      { tmps := (ps.zip args).foldl (fun t (p, v) => t.setIfInBounds p v) a.tmps, defers := [] } X) :
    YieldAt Fence.wide m P l args X R := by
  subst hr; exact round_at hl hs h

/-- What holds in the rounds. -/
structure BJ (t : List Int) (acts : List S39) (w : World) (n : Nat) (o : Obj) (r : Loop) (g i : Nat) (X : World) : Prop where
  bel : Below w.heap.size w X
  bx : X.heap[n]? = some o
  df : X.heap[n + 3]? = some (.deferred (some []))
  lp : X.heap[n + 4]? = some (.loop r)
  st : ∃ v m, X.heap[n + 1]? = some (.cells #[v] 22 (0, 0)) ∧ X.heap[n + 2]? = some (.cells #[.int .i64 m] 3 (0, 0)) ∧
    ((bestIn t acts ((sets acts).take i) = none ∧ v = .slice none 0 0 ∧ m = 0) ∨
     ∃ ad k c bs, bestIn t acts ((sets acts).take i) = some (bs, m) ∧ v = .slice (some ad) k c ∧ v.ownBlock ≠ some g ∧ X.ownsRow (n + 5) 3 1 v bs.length (nums .i64 bs))

theorem below_put {B : Nat} {w W : World} (h : Below B w W) {l : Nat} (hl : B ≤ l) (o : Obj) : Below B w (W.putObj l o) :=
  ⟨h.os, h.tape, h.output, by rw [World.putObj_size]; exact h.size, fun k hk => (World.putObj_heap_other (by omega)).trans (h.block k hk)⟩
theorem own_C {W : World} {base n c : Nat} {A : Option Addr} {xs : List Int} (h : W.ownsRow base 3 1 (.slice A n c) n (nums .i64 xs)) : Kd.C (Kd.int .i64) W A xs.length xs := by
  have hl : xs.length = n := by have := h.1; simpa [nums] using this
  obtain ⟨A', c', e, hr⟩ := own_reads h
  injection e with e1 e2
  subst e1
  rw [hl]
  exact Kd.C_of_reads (d := (0 : Int)) (h1 := fun _ => rfl) (readsInt_of.1 hr)
theorem Clone_at (A0 : Option Addr) (c0 : Nat) (l0 : List Int) (n : Nat) (w : World) (hn : l0.length = n) (hl0 : 1 ≤ n) (hl1 : n ≤ 1000) (hr0 : Kd.C (Kd.int .i64) w A0 n l0) :
    Calls Try.prog 36 #[.slice A0 n c0] w fun e w' => ∃ (g1 c1 : Nat), e = .returned (.slice (some ⟨g1, 0, none⟩) n c1) ∧ w'.ownsRow w.heap.size 3 1 (.slice (some ⟨g1, 0, none⟩) n c1) n (nums .i64 l0) ∧ Below w.heap.size w w' := by
  subst hn
  refine (Clone_any A0 c0 l0 w hr0 hl0 hl1).mono ?_
  rintro e w' ⟨v, rfl, ho, hb⟩
  rcases ho.2 with ⟨_, h⟩ | ⟨g, cap, cur, rfl, _⟩
  · omega
  · exact ⟨g, cap, rfl, ho, hb⟩
theorem maximum_at (A0 A1 A2 : Option Addr) (c0 c1 c2 : Nat) (t : List Int) (acts : List S39) (s : List Int) (n : Nat) (w : World) (hg : Good t acts) (hs : s.length = n) (ht : tens s)
    (hr0 : Kd.C (Kd.int .i64) w A0 t.length t) (hc0 : t.length ≤ c0) (hr1 : Kd.C k39 w A1 acts.length acts) (hc1 : acts.length ≤ c1) (hr2 : Kd.C (Kd.int .i64) w A2 n s) (hc2 : n ≤ c2) (hn : n = acts.length := by rfl) :
    Calls Try.prog 35 #[.agg #[.slice A0 t.length c0, .slice A1 acts.length c1], .slice A2 n c2] w fun e w' => e = .returned (.int .i64 (maxd t acts s)) ∧ Below w.heap.size w w' := by
  subst hs; exact maximum_any A0 A1 A2 c0 c1 c2 t acts s w hg hn ht hr0 hc0 hr1 hc1 hr2 hc2
theorem tens_of {acts : List S39} {xs : List Int} (hr : ∀ a ∈ acts, -10 ≤ a.f0.f0 ∧ a.f0.f0 ≤ a.f0.f1 ∧ a.f0.f1 ≤ 10) (h : Fits acts xs) : tens xs := by
  intro x hx
  obtain ⟨j, hj, e⟩ := List.mem_iff_getElem.1 hx
  have hl := h.length
  have := h.get j acts[j] x (List.getElem?_eq_getElem (by omega)) (by rw [List.getElem?_eq_getElem hj, e])
  have := hr _ (List.getElem_mem (show j < acts.length by omega))
  omega
theorem best_some (t : List Int) (acts : List S39) (x : List Int) (l : List (List Int)) : bestIn t acts (x :: l) ≠ none := by
  have : ∀ (l : List (List Int)) (b : List Int × Int), l.foldl (bestStep t acts) (some b) ≠ none := by
    intro l
    induction l with
    | nil => intro b h; cases h
    | cons y l ih =>
      intro b
      simp only [List.foldl_cons, bestStep]
      split <;> exact ih _
  exact this l _
theorem BJ.move {t : List Int} {acts : List S39} {w : World} {n : Nat} {o : Obj} {r : Loop} {g i : Nat} {X Y : World} (h : BJ t acts w n o r g i X) (hb : Below w.heap.size w Y) (hn : n + 5 ≤ g) (hm : ∀ k, k ≠ g → k < X.heap.size → Y.heap[k]? = X.heap[k]?) : BJ t acts w n o r g i Y := by
  obtain ⟨h1, h2, h3, h4, v, m, h5, h6, h7⟩ := h
  have go : ∀ {k : Nat} {o : Obj}, k < n + 5 → X.heap[k]? = some o → Y.heap[k]? = some o := fun {k o} hk hx => (hm k (by omega) (Array.getElem?_eq_some_iff.1 hx).1).trans hx
  refine ⟨hb, go (by omega) h2, go (by omega) h3, go (by omega) h4, v, m, go (by omega) h5, go (by omega) h6, ?_⟩
  rcases h7 with h7 | ⟨ad, k, c, bs, h7, h8, h9, h10⟩
  · exact .inl h7
  · exact .inr ⟨ad, k, c, bs, h7, h8, h9, own_move h10 (fun k hk => hm k (fun e => h9 (by rw [← e]; exact hk)) (own_lt h10 k hk))⟩

set_option maxRecDepth 100000 in
set_option maxHeartbeats 1200000 in
theorem Best_bad (A0 A1 : Option Addr) (c0 c1 : Nat) (t : List Int) (acts : List S39) (w : World) (hr0 : Kd.C (Kd.int .i64) w A0 t.length t) (hr1 : Kd.C k39 w A1 acts.length acts) (hc1 : acts.length ≤ c1) (hz : (rulesE t acts).2 ≠ 0) :
    Calls Try.prog 10 #[.agg #[.slice A0 t.length c0, .slice A1 acts.length c1]] w fun e w' => e = .returned (.tuple #[.slice none 0 0, .int .i64 0, .int .i64 (rulesE t acts).2]) ∧ Below w.heap.size w w' := by
  have HX := Aside0.mk (fun W (hW : Below w.heap.size w W) => open_any A0 A1 c0 c1 t acts W (Kd.C_below hr0 hW) (Kd.C_below hr1 hW) hc1)
  clear hr0 hr1
  generalize hE : (rulesE t acts).2 = er at *
  have hz1 : (er == 0) = false := by simpa using hz
  have hz2 : (er != 0) = true := by simpa using hz
  clear hE
  go_enter Try.func10, Try.ntmps10
  go_wp2_with (go_at_call 33; refine (HX.out _ (by repeat (first | exact Below.refl _ _ | apply below_drew | apply below_alloc | apply pw_below_drewN))).mono ?_; rintro e W2 ⟨rfl, hb⟩)
  go_ret3
  exact ⟨rfl, (by repeat (first | exact below_then (below_alloc (Below.refl _ _) _) (by simp) hb | exact below_then (below_alloc (below_alloc (Below.refl _ _) _) _) (by simp; omega) hb | exact Below.refl _ _ | apply below_drew | apply below_alloc | apply pw_below_drewN))⟩

set_option maxRecDepth 100000 in
set_option maxHeartbeats 1200000 in
theorem Best_good (A0 A1 : Option Addr) (c0 c1 : Nat) (t : List Int) (acts : List S39) (w : World) (hr0 : Kd.C (Kd.int .i64) w A0 t.length t) (hc0 : t.length ≤ c0) (hr1 : Kd.C k39 w A1 acts.length acts) (hc1 : acts.length ≤ c1) (hg : Good t acts) :
    Calls Try.prog 10 #[.agg #[.slice A0 t.length c0, .slice A1 acts.length c1]] w fun e w' => ∃ v bs m, e = .returned (.tuple #[v, .int .i64 m, .int .i64 0]) ∧ bestIn t acts (sets acts) = some (bs, m) ∧ w'.ownsRow w.heap.size 3 1 v bs.length (nums .i64 bs) ∧ Below w.heap.size w w' := by
  have HX := Aside0.mk (fun W (hW : Below w.heap.size w W) => open_any A0 A1 c0 c1 t acts W (Kd.C_below hr0 hW) (Kd.C_below hr1 hW) hc1)
  rw [(rulesE_zero t acts).2 hg] at HX
  have HR0 := Aside0.mk hr0
  have HR1 := Aside0.mk hr1
  have HG := Aside0.mk hg
  clear hr0 hr1
  refine calls_of_marks Try.func10 rfl ?_
  simp only [Try.ntmps10, List.size_toArray, List.length_cons, List.length_nil, Nat.reduceAdd, Nat.reduceSub, Array.replicate_succ, Array.replicate_zero, List.push_toArray, List.append_toArray, List.nil_append, List.cons_append]
  go_wp2_with (go_at_call 33; refine (HX.out _ (by repeat (first | exact Below.refl _ _ | apply below_drew | apply below_alloc | apply pw_below_drewN))).mono ?_; rintro e W2 ⟨rfl, hb⟩)
  have hn := hb.size
  simp only [World.size_alloc] at hn
  have hbw : Below w.heap.size w W2 := (by repeat (first | exact below_then (below_alloc (Below.refl _ _) _) (by simp) hb | exact below_then (below_alloc (below_alloc (Below.refl _ _) _) _) (by simp; omega) hb | exact Below.refl _ _ | apply below_drew | apply below_alloc | apply pw_below_drewN))
  refine (wpIn_wide (n := 1)).1 (range_at (gf := 34) (bd := #[.agg #[.slice A0 t.length c0, .slice A1 acts.length c1]]) rfl (enters_of Try.func34 (by kernel_rfl) rfl) ?_)
  intro fn W1 hW1
  simp only [World.size_alloc] at hW1 ⊢
  generalize hn2 : W2.heap.size = n at *
  generalize hrec : recOf fn _ _ _ _ _ = rec at *
  have hs1 : W1.heap.size = n + 5 := by rw [hW1]; simp; omega
  have hb1 : W1.heap[n]? = some (.cells #[.slice A0 t.length c0, .slice A1 acts.length c1] 81 (0, 0)) := by
    rw [hW1, ← hn2]; exact blk_alloc (blk_alloc (blk_alloc (blk_alloc (blk_new W2 _) _) _) _) _
  have hb2 : W1.heap[n + 1]? = some (.cells #[.slice none 0 0] 22 (0, 0)) := by
    rw [hW1, ← hn2]; have := blk_new (W2.alloc (.cells #[.slice A0 t.length c0, .slice A1 acts.length c1] 81)) (.cells #[.slice none 0 0] 22); rw [World.size_alloc] at this; exact blk_alloc (blk_alloc (blk_alloc this _) _) _
  have hb3 : W1.heap[n + 2]? = some (.cells #[.int .i64 0] 3 (0, 0)) := by
    rw [hW1, ← hn2]; have := blk_new ((W2.alloc (.cells #[.slice A0 t.length c0, .slice A1 acts.length c1] 81)).alloc (.cells #[.slice none 0 0] 22)) (.cells #[.int .i64 0] 3); simp only [World.size_alloc] at this; exact blk_alloc (blk_alloc this _) _
  have hb4 : W1.heap[n + 3]? = some (.deferred (some [])) := by
    rw [hW1, ← hn2]; have := blk_new (((W2.alloc (.cells #[.slice A0 t.length c0, .slice A1 acts.length c1] 81)).alloc (.cells #[.slice none 0 0] 22)).alloc (.cells #[.int .i64 0] 3)) (.deferred (some [])); simp only [World.size_alloc] at this; exact blk_alloc this _
  have hb5 : W1.heap[n + 4]? = some (.loop (rec .ready none)) := by
    rw [hW1, ← hn2]; have := blk_new ((((W2.alloc (.cells #[.slice A0 t.length c0, .slice A1 acts.length c1] 81)).alloc (.cells #[.slice none 0 0] 22)).alloc (.cells #[.int .i64 0] 3)).alloc (.deferred (some []))) (.loop (rec .ready none)); simp only [World.size_alloc] at this; exact this
  have hbel1 : Below w.heap.size w W1 := by rw [hW1]; exact below_alloc (below_alloc (below_alloc (below_alloc (below_alloc hbw _) _) _) _) _
  clear hW1
  show Calls Try.prog 34 #[.agg #[.slice A0 t.length c0, .slice A1 acts.length c1], .func (.yield (n + 4)) #[] #[]] W1 _
  refine (settings_at A0 A1 t.length c0 c1 acts HG.out.m1 HG.out.m3 HG.out.rng (n + 4) W1 (Kd.C_below HR1.out hbel1) (BJ t acts w n (.cells #[.slice A0 t.length c0, .slice A1 acts.length c1] 81 (0, 0)) (rec .ready none)) (fun _ => False) ?kj0 ?kjs ?kjd ?kjc ?kyy).mono ?kfin
  case kj0 =>
    intro g Y hg0 hg1 hB
    rw [hs1] at hB
    exact ⟨hbel1.trans (hB.mono (by omega)), (hB.block n (by omega)).trans hb1, (hB.block _ (by omega)).trans hb4, (hB.block _ (by omega)).trans hb5, _, _, (hB.block _ (by omega)).trans hb2, (hB.block _ (by omega)).trans hb3, .inl ⟨by simp [bestIn], rfl, rfl⟩⟩
  case kjs =>
    intro g i X j v hg0 hJ
    exact hJ.move (below_set hJ.bel (by omega)) (by omega) (fun k hk _ => Below.heap_setCell _ _ _ _ hk)
  case kjd => exact fun g i X hJ => ⟨below_drew hJ.bel, hJ.bx, hJ.df, hJ.lp, hJ.st⟩
  case kjc => exact fun g i X hJ => Kd.C_below HR1.out hJ.bel
  case kyy =>
    intro g n1 i X c xs hg0 hg1 hn1 hxs hJ hown
    obtain ⟨hbel, hbx, hdf, hlp, v, m, hbv, hbm, hst⟩ := hJ
    rw [hs1] at hg0
    have hF := (mem_sets acts xs).1 (List.mem_of_getElem? hxs)
    have hxl := hF.length
    have htens : tens xs := tens_of hg.rng hF
    have hg1' : n + 5 ≤ X.heap.size := by omega
    refine round_of hrec hlp rfl ?_
    gi_wp2
    refine ⟨hlp, ?_⟩
    obtain ⟨Y, hY⟩ : ∃ Y, Y = X.putObj (n + 4) (.loop (rec .busy none)) := ⟨_, rfl⟩
    rw [← hY]
    have hYs : Y.heap.size = X.heap.size := by rw [hY]; simp
    have hYk : ∀ k, k ≠ n + 4 → Y.heap[k]? = X.heap[k]? := fun k hk => by rw [hY]; exact World.putObj_heap_other hk
    have hYl : Y.heap[n + 4]? = some (.loop (rec .busy none)) := by rw [hY]; exact World.putObj_heap_same (by omega)
    have hbY : Below w.heap.size w Y := by rw [hY]; exact below_put hbel (by omega) _
    have hownY := own_move hown (w1 := Y) (fun k hk => by
      have : g = k := by simpa [Value.ownBlock] using hk
      exact hYk k (by omega))
    have hgX : g < X.heap.size := own_lt hown g rfl
    have MX := maximum_any A0 A1 (some ⟨g, 0, none⟩) c0 c1 c t acts xs Y hg hxl htens (Kd.C_below HR0.out hbY) hc0 (Kd.C_below HR1.out hbY) hc1 (own_C hownY) (by rw [hxl]; exact own_le hown)
    have hCY := own_C hownY
    rw [hxl] at MX hCY
    have ybx := (hYk n (by omega)).trans hbx
    have ybv : Boxed Y (n + 1) 22 v := (hYk _ (by omega)).trans hbv
    have ybm : Boxed Y (n + 2) 3 (.int .i64 m) := (hYk _ (by omega)).trans hbm
    have yc0 : Y.cell? ⟨n, 0, none⟩ = some (.slice A0 t.length c0) := by simp [World.cell?, ybx]
    have yc1 : Y.cell? ⟨n, 1, none⟩ = some (.slice A1 acts.length c1) := by simp [World.cell?, ybx]
    have hbs : bestIn t acts ((sets acts).take (i + 1)) = bestStep t acts (bestIn t acts ((sets acts).take i)) xs := by
      obtain ⟨hil, hie⟩ := List.getElem?_eq_some_iff.1 hxs
      rw [List.take_succ_eq_append_getElem hil, hie, bestIn, List.foldl_append]; rfl
    generalize hn0 : maxd t acts xs = n0 at *
    replace MX := Aside0.mk MX
    have HBY := Aside0.mk hbY
    have HCY := Aside0.mk hCY
    have HHY := Aside0.mk (And.intro hYs (And.intro hYk (And.intro hYl hbs)))
    have HHX := Aside0.mk (And.intro hbx (And.intro hbel (And.intro hdf (And.intro hlp (And.intro hbv (And.intro hbm (And.intro hown hgX)))))))
    have CL := Aside0.mk (fun (W : World) (h : Kd.C (Kd.int .i64) W (some ⟨g, 0, none⟩) acts.length xs) => Clone_at (some ⟨g, 0, none⟩) c xs acts.length W hxl hg.m1 (Nat.le_trans hg.m3 (by decide)) h)
    have HREC := Aside0.mk hrec
    clear hYk hYl hbs hbel hdf hlp hbv hbm hown hownY hrec hbY hCY hgX hY hYs ybx hbx HX hb hbw hb1 hb2 hb3 hb4 hb5
    rcases hst with ⟨hb0, rfl, rfl⟩ | ⟨ad, k, cc, bs, hb0, rfl, hvg, hvo⟩
    · gi_wp2_with (first | (gi_at_call 35; refine (CallsIn.inRound _ (callsIn_wide.2 MX.out)).mono ?_; rintro e Z ⟨rfl, hZ⟩; have zbv := blk_below ybv hZ; have zbm := blk_below ybm hZ; have zcv := Boxed.cell zbv; have zcm : Z.cell? ⟨n + 1 + 1, 0, none⟩ = some _ := Boxed.cell zbm) | (gi_at_call 36; refine (CallsIn.inRound _ (callsIn_wide.2 (CL.out Z (Kd.C_below HCY.out hZ)))).mono ?_; rintro e V ⟨g1, k1, rfl, hvown, hV⟩; have vbv := blk_below zbv hV; have vbm := blk_below zbm hV; have vcv := Boxed.cell vbv; have vcm : V.cell? ⟨n + 1 + 1, 0, none⟩ = some _ := Boxed.cell vbm; have vfv := Boxed.frozen vbv; have vfm : V.frozen? ⟨n + 1 + 1, 0, none⟩ = false := Boxed.frozen vbm))
      obtain ⟨hYs, hYk, hYl, hbs⟩ := HHY.out
      obtain ⟨hbx, hbel, hdf, hlp, hbv, hbm, hown, hgX⟩ := HHX.out
      have hZs := hZ.size
      have hVs := hV.size
      have hg1b := own_base hvown g1 rfl
      have hU : ∀ k, k ≠ n + 1 → k ≠ n + 2 → k < Y.heap.size → ((V.setCell ⟨n + 1, 0, none⟩ (.slice (some ⟨g1, 0, none⟩) acts.length k1)).setCell ⟨n + 1 + 1, 0, none⟩ (.int .i64 n0)).heap[k]? = Y.heap[k]? := fun k h1 h2 h3 =>
        (Below.heap_setCell _ _ _ _ h2).trans ((Below.heap_setCell _ _ _ _ h1).trans ((hV.block k (by omega)).trans (hZ.block k h3)))
      have hUs : V.heap.size ≤ ((V.setCell ⟨n + 1, 0, none⟩ (.slice (some ⟨g1, 0, none⟩) acts.length k1)).setCell ⟨n + 1 + 1, 0, none⟩ (.int .i64 n0)).heap.size := Nat.le_trans (KeepsWalks.setCell V _ _).size (KeepsWalks.setCell _ _ _).size
      have hU1 : ((V.setCell ⟨n + 1, 0, none⟩ (.slice (some ⟨g1, 0, none⟩) acts.length k1)).setCell ⟨n + 1 + 1, 0, none⟩ (.int .i64 n0)).heap[n + 1]? = some (.cells #[.slice (some ⟨g1, 0, none⟩) acts.length k1] 22 (0, 0)) := (Below.heap_setCell _ _ _ _ (show n + 1 ≠ n + 2 by omega)).trans (Boxed.set _ vbv)
      have hU2 : ((V.setCell ⟨n + 1, 0, none⟩ (.slice (some ⟨g1, 0, none⟩) acts.length k1)).setCell ⟨n + 1 + 1, 0, none⟩ (.int .i64 n0)).heap[n + 2]? = some (.cells #[.int .i64 n0] 3 (0, 0)) := Boxed.set _ ((Below.heap_setCell _ _ _ _ (show n + 2 ≠ n + 1 by omega)).trans vbm)
      refine ⟨(hU _ (by omega) (by omega) (by omega)).trans hYl, .inl ⟨rfl, ⟨?_, ?_, ?_, World.putObj_heap_same (by omega), .slice (some ⟨g1, 0, none⟩) acts.length k1, n0, ?_, ?_, .inr ⟨⟨g1, 0, none⟩, acts.length, k1, xs, ?_, rfl, ?_, ?_⟩⟩, ?_, ?_⟩⟩
      · exact below_put (below_set (below_set ((HBY.out.trans (hZ.mono (by have := HBY.out.size; omega))).trans (hV.mono (by have := HBY.out.size; omega))) (by omega)) (by omega)) (by omega) _
      · exact (World.putObj_heap_other (by omega)).trans ((hU n (by omega) (by omega) (by omega)).trans ((hYk n (by omega)).trans hbx))
      · exact (World.putObj_heap_other (by omega)).trans ((hU _ (by omega) (by omega) (by omega)).trans ((hYk _ (by omega)).trans hdf))
      · exact (World.putObj_heap_other (by omega)).trans hU1
      · exact (World.putObj_heap_other (by omega)).trans hU2
      · rw [hbs, hb0]; simp only [bestStep, hn0]
      · simp [Value.ownBlock]; omega
      · rw [hxl]
        exact own_weaken (own_move hvown (fun k hk => by
          have hk' : g1 = k := by simpa [Value.ownBlock] using hk
          subst hk'
          exact (World.putObj_heap_other (by omega)).trans ((Below.heap_setCell _ _ _ _ (show g1 ≠ n + 2 by omega)).trans (Below.heap_setCell _ _ _ _ (show g1 ≠ n + 1 by omega))))) (by omega)
      · rw [World.putObj_size]; omega
      · intro k hk1 hk2
        exact (World.putObj_heap_other (by omega)).trans ((hU k (by omega) (by omega) (by omega)).trans (hYk k (by omega)))
    · by_cases hlt : n0 < m
      · gi_wp2_with (first | (gi_at_call 35; refine (CallsIn.inRound _ (callsIn_wide.2 MX.out)).mono ?_; rintro e Z ⟨rfl, hZ⟩; have zbv := blk_below ybv hZ; have zbm := blk_below ybm hZ; have zcv := Boxed.cell zbv; have zcm : Z.cell? ⟨n + 1 + 1, 0, none⟩ = some _ := Boxed.cell zbm) | (gi_at_call 36; refine (CallsIn.inRound _ (callsIn_wide.2 (CL.out Z (Kd.C_below HCY.out hZ)))).mono ?_; rintro e V ⟨g1, k1, rfl, hvown, hV⟩; have vbv := blk_below zbv hV; have vbm := blk_below zbm hV; have vcv := Boxed.cell vbv; have vcm : V.cell? ⟨n + 1 + 1, 0, none⟩ = some _ := Boxed.cell vbm; have vfv := Boxed.frozen vbv; have vfm : V.frozen? ⟨n + 1 + 1, 0, none⟩ = false := Boxed.frozen vbm))
        obtain ⟨hYs, hYk, hYl, hbs⟩ := HHY.out
        obtain ⟨hbx, hbel, hdf, hlp, hbv, hbm, hown, hgX⟩ := HHX.out
        have hZs := hZ.size
        have hVs := hV.size
        have hg1b := own_base hvown g1 rfl
        have hU : ∀ k, k ≠ n + 1 → k ≠ n + 2 → k < Y.heap.size → ((V.setCell ⟨n + 1, 0, none⟩ (.slice (some ⟨g1, 0, none⟩) acts.length k1)).setCell ⟨n + 1 + 1, 0, none⟩ (.int .i64 n0)).heap[k]? = Y.heap[k]? := fun k h1 h2 h3 =>
          (Below.heap_setCell _ _ _ _ h2).trans ((Below.heap_setCell _ _ _ _ h1).trans ((hV.block k (by omega)).trans (hZ.block k h3)))
        have hUs : V.heap.size ≤ ((V.setCell ⟨n + 1, 0, none⟩ (.slice (some ⟨g1, 0, none⟩) acts.length k1)).setCell ⟨n + 1 + 1, 0, none⟩ (.int .i64 n0)).heap.size := Nat.le_trans (KeepsWalks.setCell V _ _).size (KeepsWalks.setCell _ _ _).size
        have hU1 : ((V.setCell ⟨n + 1, 0, none⟩ (.slice (some ⟨g1, 0, none⟩) acts.length k1)).setCell ⟨n + 1 + 1, 0, none⟩ (.int .i64 n0)).heap[n + 1]? = some (.cells #[.slice (some ⟨g1, 0, none⟩) acts.length k1] 22 (0, 0)) := (Below.heap_setCell _ _ _ _ (show n + 1 ≠ n + 2 by omega)).trans (Boxed.set _ vbv)
        have hU2 : ((V.setCell ⟨n + 1, 0, none⟩ (.slice (some ⟨g1, 0, none⟩) acts.length k1)).setCell ⟨n + 1 + 1, 0, none⟩ (.int .i64 n0)).heap[n + 2]? = some (.cells #[.int .i64 n0] 3 (0, 0)) := Boxed.set _ ((Below.heap_setCell _ _ _ _ (show n + 2 ≠ n + 1 by omega)).trans vbm)
        refine ⟨(hU _ (by omega) (by omega) (by omega)).trans hYl, .inl ⟨rfl, ⟨?_, ?_, ?_, World.putObj_heap_same (by omega), .slice (some ⟨g1, 0, none⟩) acts.length k1, n0, ?_, ?_, .inr ⟨⟨g1, 0, none⟩, acts.length, k1, xs, ?_, rfl, ?_, ?_⟩⟩, ?_, ?_⟩⟩
        · exact below_put (below_set (below_set ((HBY.out.trans (hZ.mono (by have := HBY.out.size; omega))).trans (hV.mono (by have := HBY.out.size; omega))) (by omega)) (by omega)) (by omega) _
        · exact (World.putObj_heap_other (by omega)).trans ((hU n (by omega) (by omega) (by omega)).trans ((hYk n (by omega)).trans hbx))
        · exact (World.putObj_heap_other (by omega)).trans ((hU _ (by omega) (by omega) (by omega)).trans ((hYk _ (by omega)).trans hdf))
        · exact (World.putObj_heap_other (by omega)).trans hU1
        · exact (World.putObj_heap_other (by omega)).trans hU2
        · rw [hbs, hb0]; simp only [bestStep, hn0]; rw [if_pos hlt]
        · simp [Value.ownBlock]; omega
        · rw [hxl]
          exact own_weaken (own_move hvown (fun k hk => by
            have hk' : g1 = k := by simpa [Value.ownBlock] using hk
            subst hk'
            exact (World.putObj_heap_other (by omega)).trans ((Below.heap_setCell _ _ _ _ (show g1 ≠ n + 2 by omega)).trans (Below.heap_setCell _ _ _ _ (show g1 ≠ n + 1 by omega))))) (by omega)
        · rw [World.putObj_size]; omega
        · intro k hk1 hk2
          exact (World.putObj_heap_other (by omega)).trans ((hU k (by omega) (by omega) (by omega)).trans (hYk k (by omega)))
      · gi_wp2_with (first | (gi_at_call 35; refine (CallsIn.inRound _ (callsIn_wide.2 MX.out)).mono ?_; rintro e Z ⟨rfl, hZ⟩; have zbv := blk_below ybv hZ; have zbm := blk_below ybm hZ; have zcv := Boxed.cell zbv; have zcm : Z.cell? ⟨n + 1 + 1, 0, none⟩ = some _ := Boxed.cell zbm) | (gi_at_call 36; refine (CallsIn.inRound _ (callsIn_wide.2 (CL.out Z (Kd.C_below HCY.out hZ)))).mono ?_; rintro e V ⟨g1, k1, rfl, hvown, hV⟩; have vbv := blk_below zbv hV; have vbm := blk_below zbm hV; have vcv := Boxed.cell vbv; have vcm : V.cell? ⟨n + 1 + 1, 0, none⟩ = some _ := Boxed.cell vbm; have vfv := Boxed.frozen vbv; have vfm : V.frozen? ⟨n + 1 + 1, 0, none⟩ = false := Boxed.frozen vbm))
        obtain ⟨hYs, hYk, hYl, hbs⟩ := HHY.out
        obtain ⟨hbx, hbel, hdf, hlp, hbv, hbm, hown, hgX⟩ := HHX.out
        have hZs := hZ.size
        refine ⟨(hZ.block _ (by omega)).trans hYl, .inl ⟨rfl, ⟨?_, ?_, ?_, World.putObj_heap_same (by omega), .slice (some ad) k cc, m, ?_, ?_, .inr ⟨ad, k, cc, bs, ?_, rfl, hvg, ?_⟩⟩, ?_, ?_⟩⟩
        · exact below_put (HBY.out.trans (hZ.mono (by have := HBY.out.size; omega))) (by omega) _
        · exact (World.putObj_heap_other (by omega)).trans ((hZ.block n (by omega)).trans ((hYk n (by omega)).trans hbx))
        · exact (World.putObj_heap_other (by omega)).trans ((hZ.block _ (by omega)).trans ((hYk _ (by omega)).trans hdf))
        · exact (World.putObj_heap_other (by omega)).trans zbv
        · exact (World.putObj_heap_other (by omega)).trans zbm
        · rw [hbs, hb0]; simp only [bestStep, hn0]; rw [if_neg (by omega)]
        · exact own_move hvo (fun j hj => by
            have h1 := own_base hvo j hj
            have h2 := own_lt hvo j hj
            exact (World.putObj_heap_other (by omega)).trans ((hZ.block j (by omega)).trans (hYk j (by omega))))
        · rw [World.putObj_size]; omega
        · intro k hk1 hk2
          exact (World.putObj_heap_other (by omega)).trans ((hZ.block k (by omega)).trans (hYk k (by omega)))

  case kfin =>
    rintro e W3 ⟨⟨v0, rfl⟩, (⟨g, hJ⟩ | h)⟩
    rotate_left
    · exact h.elim
    refine ⟨⟨v0, rfl⟩, .ready, none, by decide, hJ.lp, ?_⟩
    obtain ⟨hbel, hbx, hdf, hlp, v, m, hbv, hbm, hst⟩ := hJ
    have hlk := sets_ok acts (fun a ha => (HG.out.rng a ha).2.1)
    obtain ⟨ad, k, c, bs, hb0, rfl, hvo⟩ : ∃ ad k c bs, bestIn t acts (sets acts) = some (bs, m) ∧ v = .slice (some ad) k c ∧ W3.ownsRow (n + 5) 3 1 v bs.length (nums .i64 bs) := by
      rcases hst with ⟨h1, _⟩ | ⟨ad, k, c, bs, h1, h2, _, h3⟩
      · rw [List.take_length] at h1
        obtain ⟨x, l, hl⟩ : ∃ x l, sets acts = x :: l := by
          cases hs : sets acts with
          | nil => have := hlk.2; rw [hs] at this; cases this
          | cons x l => exact ⟨x, l, rfl⟩
        rw [hl] at h1
        exact absurd h1 (best_some t acts x l)
      · rw [List.take_length] at h1
        exact ⟨ad, k, c, bs, h1, h2, h3⟩
    obtain ⟨W4, hW4⟩ : ∃ W4, W4 = W3.putObj (n + 4) (.loop (rec .exhausted none)) := ⟨_, rfl⟩
    have hk4 : ∀ k, k ≠ n + 4 → W4.heap[k]? = W3.heap[k]? := fun k hk => by rw [hW4]; exact World.putObj_heap_other hk
    have hbel4 : Below w.heap.size w W4 := by rw [hW4]; exact below_put hbel (by omega) _
    have hbv4 : Boxed W4 (n + 1) 22 (.slice (some ad) k c) := (hk4 _ (by omega)).trans hbv
    have hbm4 : Boxed W4 (n + 2) 3 (.int .i64 m) := (hk4 _ (by omega)).trans hbm
    have hdf4 := (hk4 (n + 3) (by omega)).trans hdf
    have hvo4 := own_move hvo (w1 := W4) (fun k hk => hk4 k (by have := own_base hvo k hk; omega))
    rw [← hW4]
    clear hst hbx hlp hrec hk4 hW4 hbv hbm hvo hdf hbel HX hb hbw hb1 hb2 hb3 hb4 hb5
    have hcv := Boxed.cell hbv4
    have hcm : W4.cell? ⟨n + 1 + 1, 0, none⟩ = some _ := Boxed.cell hbm4
    simp only [behindQ, marked]
    go_wp2
    refine wp_noPanic ?_
    refine wp_region_held_drew (S := (fun w' => w'.cell? ⟨n + 1, 0, none⟩ = some (.slice (some ad) k c) ∧ w'.cell? ⟨n + 1 + 1, 0, none⟩ = some (.int .i64 m))) (by kernel_rfl) ?_ (fun hHeld => ?_)
    · exact ⟨hcv, hcm⟩
    refine takeT (i := 0) (d := 35) (v := ?_) rfl rfl (by kernel_rfl) (by kernel_rfl) (by kernel_rfl) (fun _ _ _ h => h) (Or.inl ⟨rfl, fun w hSw => ?_⟩) (by assumption) ?_
    rotate_left
    · (try dsimp only at hSw); simp only [List.getElem_toArray, List.getElem_cons_zero, List.getElem_cons_succ]; go_simp <;> with_reducible rfl
    simp only [List.setIfInBounds_toArray, List.set_cons_zero, List.set_cons_succ]
    refine takeT (i := 1) (d := 36) (v := ?_) rfl rfl (by kernel_rfl) (by kernel_rfl) (by kernel_rfl) (fun _ _ _ h => h) (Or.inl ⟨rfl, fun w hSw => ?_⟩) (by assumption) ?_
    rotate_left
    · (try dsimp only at hSw); simp only [List.getElem_toArray, List.getElem_cons_zero, List.getElem_cons_succ]; go_simp <;> with_reducible rfl
    simp only [List.setIfInBounds_toArray, List.set_cons_zero, List.set_cons_succ]
    refine takeT (i := 2) (d := 2) (v := ?_) rfl rfl (by kernel_rfl) (by kernel_rfl) (by kernel_rfl) (fun _ _ _ h => h) (Or.inl ⟨rfl, fun w hSw => ?_⟩) (by assumption) ?_
    rotate_left
    · (try dsimp only at hSw); simp only [List.getElem_toArray, List.getElem_cons_zero, List.getElem_cons_succ]; go_simp <;> with_reducible rfl
    simp only [List.setIfInBounds_toArray, List.set_cons_zero, List.set_cons_succ]
    refine takeT (i := 3) (d := 3) (v := ?_) rfl rfl (by kernel_rfl) (by kernel_rfl) (by kernel_rfl) (fun _ _ _ h => h) (Or.inl ⟨rfl, fun w hSw => ?_⟩) (by assumption) ?_
    rotate_left
    · (try dsimp only at hSw); simp only [List.getElem_toArray, List.getElem_cons_zero, List.getElem_cons_succ]; go_simp <;> with_reducible rfl
    simp only [List.setIfInBounds_toArray, List.set_cons_zero, List.set_cons_succ]
    refine takeT (i := 4) (d := 4) (v := ?_) rfl rfl (by kernel_rfl) (by kernel_rfl) (by kernel_rfl) (fun _ _ _ h => h) (Or.inl ⟨rfl, fun w hSw => ?_⟩) (by assumption) ?_
    rotate_left
    · (try dsimp only at hSw); simp only [List.getElem_toArray, List.getElem_cons_zero, List.getElem_cons_succ]; go_simp <;> with_reducible rfl
    simp only [List.setIfInBounds_toArray, List.set_cons_zero, List.set_cons_succ]
    refine wpAnyH_done (by kernel_rfl) ?_ _
    refine noPanic_normal ?_
    go_wp2
    refine marks_ret (D := n + 3) hdf4 (results_tmp3 rfl _ _ _) ?_
    exact ⟨_, bs, m, rfl, hb0, own_weaken (own_move hvo4 (fun k hk => World.putObj_heap_other (by have := own_base hvo4 k hk; omega))) (by omega), below_put (below_drew hbel4) (by omega) _⟩

end Go.Proofs.Ytbijfhmpafjceaa.E
