import Derived.Test.YtbijfhmpafjceaaE10
set_option linter.unusedVariables false
set_option linter.unusedSimpArgs false
namespace Go.Proofs.Ytbijfhmpafjceaa.E
open Go.RowKit Go.Proofs.YtbijfhmpafjceaaW.PrintWords Go.Proofs.YtbijfhmpafjceaaW.PrintMore Go.Proofs.Ytbijfhmpafjceaa.PFlatKept
attribute [local go_sem] Oper.semAt_some eql22 wide_fn wide_depth

theorem res12 (tmps : Array Value) (w : World) (a b : Addr) (v u : Value) (h4 : tmps.getD 4 undef = .pointer (some a)) (h5 : tmps.getD 5 undef = .pointer (some b)) (hv : w.cell? a = some v) (hu : w.cell? b = some u) :
    (results Try.f12 tmps).run Try.prog w = .ok (.tuple #[v, u]) w := by
  have h4' : tmps[4]?.getD undef = .pointer (some a) := by simpa using h4
  have h5' : tmps[5]?.getD undef = .pointer (some b) := by simpa using h5
  have hu22 := Try.underlying22
  have hu30 := Try.underlying30
  unfold results
  rw [show Try.f12.results = #[.cell 4 22, .cell 5 30] from rfl]
  simp [go_sem, loadVar, asAddr, h4', h5', hv, hu, hu22, hu30]

set_option maxRecDepth 100000 in
set_option maxHeartbeats 1200000 in
theorem FirstWithin_bad (A0 A1 : Option Addr) (c0 c1 : Nat) (t : List Int) (acts : List S39) (tol : Int) (w : World) (hr0 : Kd.C (Kd.int .i64) w A0 t.length t) (hr1 : Kd.C k39 w A1 acts.length acts) (hc1 : acts.length ≤ c1) (hz : fst1 [(rulesE t acts).2, tolE tol] ≠ 0) :
    Calls Try.prog 12 #[.agg #[.slice A0 t.length c0, .slice A1 acts.length c1], .int .i64 tol] w fun e w' => e = .returned (.tuple #[.slice none 0 0, .int .i64 (fst1 [(rulesE t acts).2, tolE tol])]) ∧ Below w.heap.size w w' := by
  have HX := Aside0.mk (fun W (hW : Below w.heap.size w W) => openTol_any A0 A1 c0 c1 t acts tol W (Kd.C_below hr0 hW) (Kd.C_below hr1 hW) hc1)
  clear hr0 hr1
  generalize hE : fst1 [(rulesE t acts).2, tolE tol] = er at *
  have hz1 : (er == 0) = false := by simpa using hz
  have hz2 : (er != 0) = true := by simpa using hz
  clear hE
  go_enter Try.func12, Try.ntmps12
  go_wp2_with (go_at_call 37; refine (HX.out _ (by repeat (first | exact Below.refl _ _ | apply below_drew | apply below_alloc | apply pw_below_drewN))).mono ?_; rintro e W2 ⟨rfl, hb⟩; have qr2 : W2.heap[w.heap.size + 1 + 1 + 1]? = some (.cells #[.int .i64 0] 30 (0, 0)) := blk_below (by have := blk_new (((w.alloc (.cells #[.slice A0 t.length c0, .slice A1 acts.length c1] 25)).alloc (.cells #[.int .i64 tol] 3)).alloc (.cells #[.slice none 0 0] 22)) (.cells #[.int .i64 0] 30); simp only [World.size_alloc] at this; exact this) hb; have qr1 : W2.heap[w.heap.size + 1 + 1]? = some (.cells #[.slice none 0 0] 22 (0, 0)) := blk_below (by have := blk_new ((w.alloc (.cells #[.slice A0 t.length c0, .slice A1 acts.length c1] 25)).alloc (.cells #[.int .i64 tol] 3)) (.cells #[.slice none 0 0] 22); simp only [World.size_alloc] at this; exact blk_alloc this _) hb; have qtb : W2.heap[w.heap.size + 1]? = some (.cells #[.int .i64 tol] 3 (0, 0)) := blk_below (by have := blk_new (w.alloc (.cells #[.slice A0 t.length c0, .slice A1 acts.length c1] 25)) (.cells #[.int .i64 tol] 3); simp only [World.size_alloc] at this; exact blk_alloc (blk_alloc this _) _) hb; have qc1 := Boxed.cell qr1; have qc2 := Boxed.cell qr2; have qf1 := Boxed.frozen qr1; have qf2 := Boxed.frozen qr2; have ql1 : w.heap.size + 1 + 1 + 1 < W2.heap.size := (by have := hb.size; simp only [World.size_alloc] at this; omega); have ql2 : w.heap.size + 1 + 1 < W2.heap.size := (by omega))
  refine bodyPost_ret (res12 _ _ ⟨w.heap.size + 1 + 1, 0, none⟩ ⟨w.heap.size + 1 + 1 + 1, 0, none⟩ (.slice none 0 0) (.int .i64 er) rfl rfl
    (Boxed.cell (blk_alloc ((Below.heap_setCell _ _ _ _ (show w.heap.size + 1 + 1 ≠ w.heap.size + 1 + 1 + 1 by omega)).trans (Boxed.set _ qr1)) _))
    (Boxed.cell (blk_alloc (Boxed.set _ ((Below.heap_setCell _ _ _ _ (show w.heap.size + 1 + 1 + 1 ≠ w.heap.size + 1 + 1 by omega)).trans qr2)) _))) rfl ?_
  exact ⟨rfl, below_alloc (below_set (below_set (below_then (below_alloc (below_alloc (below_alloc (below_alloc (Below.refl _ _) _) _) _) _) (by simp; omega) hb) (by omega)) (by omega)) _⟩

/-- The first settings that keep a tolerance. -/
def firstIn (t : List Int) (acts : List S39) (tol : Int) : Option (List Int) := (sets acts).find? fun s => decide (maxd t acts s ≤ tol)

theorem find_first {α : Type} {S : List α} {i : Nat} {x : α} {p : α → Bool} (hx : S[i]? = some x) (hp : p x = true) (hn : ∀ s ∈ S.take i, ¬ p s = true) : S.find? p = some x := by
  obtain ⟨hi, e⟩ := List.getElem?_eq_some_iff.1 hx
  have : S = S.take i ++ x :: S.drop (i + 1) := by
    rw [← e, ← List.drop_eq_getElem_cons hi, List.take_append_drop]
  rw [this, List.find?_append, List.find?_eq_none.2 hn]
  simp [hp]

structure FJ (t : List Int) (acts : List S39) (tol : Int) (w : World) (n : Nat) (o : Obj) (r : Loop) (g i : Nat) (X : World) : Prop where
  bel : Below w.heap.size w X
  bx : X.heap[n]? = some o
  df : X.heap[n + 1]? = some (.deferred (some []))
  lp : X.heap[n + 2]? = some (.loop r)
  tb : X.heap[w.heap.size + 1]? = some (.cells #[.int .i64 tol] 3 (0, 0))
  r1 : X.heap[w.heap.size + 2]? = some (.cells #[.slice none 0 0] 22 (0, 0))
  r2 : X.heap[w.heap.size + 3]? = some (.cells #[.int .i64 0] 30 (0, 0))
  no : ∀ s ∈ (sets acts).take i, ¬ maxd t acts s ≤ tol
theorem FJ.move {t : List Int} {acts : List S39} {tol : Int} {w : World} {n : Nat} {o : Obj} {r : Loop} {g i : Nat} {X Y : World} (h : FJ t acts tol w n o r g i X) (hb : Below w.heap.size w Y) (hw : w.heap.size + 4 ≤ n) (hn : n + 3 ≤ g) (hm : ∀ k, k ≠ g → k < X.heap.size → Y.heap[k]? = X.heap[k]?) : FJ t acts tol w n o r g i Y := by
  obtain ⟨h1, h2, h3, h4, h5, h6, h7, h8⟩ := h
  have go : ∀ {k : Nat} {o : Obj}, k < n + 3 → X.heap[k]? = some o → Y.heap[k]? = some o := fun {k o} hk hx => (hm k (by omega) (Array.getElem?_eq_some_iff.1 hx).1).trans hx
  exact ⟨hb, go (by omega) h2, go (by omega) h3, go (by omega) h4, go (by omega) h5, go (by omega) h6, go (by omega) h7, h8⟩
/-- What holds when a round has returned. -/
structure FX (t : List Int) (acts : List S39) (tol : Int) (w : World) (n : Nat) (r : Loop) (X : World) : Prop where
  bel : Below w.heap.size w X
  df : X.heap[n + 1]? = some (.deferred (some []))
  lp : X.heap[n + 2]? = some (.loop r)
  st : ∃ s v, firstIn t acts tol = some s ∧ X.heap[w.heap.size + 2]? = some (.cells #[v] 22 (0, 0)) ∧ X.heap[w.heap.size + 3]? = some (.cells #[.int .i64 0] 30 (0, 0)) ∧ X.ownsRow (n + 3) 3 1 v s.length (nums .i64 s)

set_option maxRecDepth 100000 in
set_option maxHeartbeats 2400000 in
theorem FirstWithin_good (A0 A1 : Option Addr) (c0 c1 : Nat) (t : List Int) (acts : List S39) (tol : Int) (w : World) (hr0 : Kd.C (Kd.int .i64) w A0 t.length t) (hc0 : t.length ≤ c0) (hr1 : Kd.C k39 w A1 acts.length acts) (hc1 : acts.length ≤ c1) (hz : fst1 [(rulesE t acts).2, tolE tol] = 0) (hg : Good t acts) :
    Calls Try.prog 12 #[.agg #[.slice A0 t.length c0, .slice A1 acts.length c1], .int .i64 tol] w fun e w' =>
      (∃ v s, e = .returned (.tuple #[v, .int .i64 0]) ∧ firstIn t acts tol = some s ∧ w'.ownsRow w.heap.size 3 1 v s.length (nums .i64 s) ∧ Below w.heap.size w w') ∨
      (e = .returned (.tuple #[.slice none 0 0, .int .i64 12]) ∧ firstIn t acts tol = none ∧ Below w.heap.size w w') := by
  have HX := Aside0.mk (fun W (hW : Below w.heap.size w W) => openTol_any A0 A1 c0 c1 t acts tol W (Kd.C_below hr0 hW) (Kd.C_below hr1 hW) hc1)
  rw [hz] at HX
  have HR0 := Aside0.mk hr0
  have HR1 := Aside0.mk hr1
  have HG := Aside0.mk hg
  clear hr0 hr1
  refine calls_of_marks Try.func12 rfl ?_
  simp only [Try.ntmps12, List.size_toArray, List.length_cons, List.length_nil, Nat.reduceAdd, Nat.reduceSub, Array.replicate_succ, Array.replicate_zero, List.push_toArray, List.append_toArray, List.nil_append, List.cons_append]
  go_wp2_with (go_at_call 37; refine (HX.out _ (by repeat (first | exact Below.refl _ _ | apply below_drew | apply below_alloc | apply pw_below_drewN))).mono ?_; rintro e W2 ⟨rfl, hb⟩; have qr2 : W2.heap[w.heap.size + 1 + 1 + 1]? = some (.cells #[.int .i64 0] 30 (0, 0)) := blk_below (by have := blk_new (((w.alloc (.cells #[.slice A0 t.length c0, .slice A1 acts.length c1] 25)).alloc (.cells #[.int .i64 tol] 3)).alloc (.cells #[.slice none 0 0] 22)) (.cells #[.int .i64 0] 30); simp only [World.size_alloc] at this; exact this) hb; have qr1 : W2.heap[w.heap.size + 1 + 1]? = some (.cells #[.slice none 0 0] 22 (0, 0)) := blk_below (by have := blk_new ((w.alloc (.cells #[.slice A0 t.length c0, .slice A1 acts.length c1] 25)).alloc (.cells #[.int .i64 tol] 3)) (.cells #[.slice none 0 0] 22); simp only [World.size_alloc] at this; exact blk_alloc this _) hb; have qtb : W2.heap[w.heap.size + 1]? = some (.cells #[.int .i64 tol] 3 (0, 0)) := blk_below (by have := blk_new (w.alloc (.cells #[.slice A0 t.length c0, .slice A1 acts.length c1] 25)) (.cells #[.int .i64 tol] 3); simp only [World.size_alloc] at this; exact blk_alloc (blk_alloc this _) _) hb; have qc1 := Boxed.cell qr1; have qc2 := Boxed.cell qr2; have qf1 := Boxed.frozen qr1; have qf2 := Boxed.frozen qr2; have ql1 : w.heap.size + 1 + 1 + 1 < W2.heap.size := (by have := hb.size; simp only [World.size_alloc] at this; omega); have ql2 : w.heap.size + 1 + 1 < W2.heap.size := (by omega))
  have hbw : Below w.heap.size w W2 := below_then (below_alloc (below_alloc (below_alloc (below_alloc (Below.refl _ _) _) _) _) _) (by simp; omega) hb
  clear qc1 qc2 qf1 qf2
  refine (wpIn_wide (n := 1)).1 (range_at (gf := 34) (bd := #[.agg #[.slice A0 t.length c0, .slice A1 acts.length c1]]) rfl (enters_of Try.func34 (by kernel_rfl) rfl) ?_)
  intro fn W1 hW1
  simp only [World.size_alloc] at hW1 ⊢
  generalize hn2 : W2.heap.size = n at *
  generalize hrec : recOf fn _ _ _ _ _ = rec at *
  have hs1 : W1.heap.size = n + 3 := by rw [hW1]; simp; omega
  have hb1 : W1.heap[n]? = some (.cells #[.slice A0 t.length c0, .slice A1 acts.length c1] 81 (0, 0)) := by rw [hW1]; rw [← hn2]; exact blk_alloc (blk_alloc (blk_new W2 _) _) _
  have hb4 : W1.heap[(n + 1)]? = some (.deferred (some [])) := by rw [hW1]; rw [← hn2]; exact blk_alloc (by have := blk_new (W2.alloc (.cells #[.slice A0 t.length c0, .slice A1 acts.length c1] 81)) (.deferred (some [])); simp only [World.size_alloc] at this; exact this) _
  have hb5 : W1.heap[(n + 2)]? = some (.loop (rec .ready none)) := by rw [hW1]; rw [← hn2]; exact (by have := blk_new ((W2.alloc (.cells #[.slice A0 t.length c0, .slice A1 acts.length c1] 81)).alloc (.deferred (some []))) (.loop (rec .ready none)); simp only [World.size_alloc] at this; exact this)
  have hbt : W1.heap[(w.heap.size + 1)]? = some (.cells #[.int .i64 tol] 3 (0, 0)) := by rw [hW1]; exact blk_alloc (blk_alloc (blk_alloc qtb _) _) _
  have hbr : W1.heap[(w.heap.size + 2)]? = some (.cells #[.slice none 0 0] 22 (0, 0)) := by rw [hW1]; exact blk_alloc (blk_alloc (blk_alloc qr1 _) _) _
  have hbs : W1.heap[(w.heap.size + 3)]? = some (.cells #[.int .i64 0] 30 (0, 0)) := by rw [hW1]; exact blk_alloc (blk_alloc (blk_alloc qr2 _) _) _
  have hbel1 : Below w.heap.size w W1 := by rw [hW1]; exact below_alloc (below_alloc (below_alloc hbw _) _) _
  clear hW1 HX qr1 qr2 qtb hb hbw
  show Calls Try.prog 34 #[.agg #[.slice A0 t.length c0, .slice A1 acts.length c1], .func (.yield (n + 2)) #[] #[]] W1 _
  refine (settings_at A0 A1 t.length c0 c1 acts HG.out.m1 HG.out.m3 HG.out.rng (n + 2) W1 (Kd.C_below HR1.out hbel1) (FJ t acts tol w n (.cells #[.slice A0 t.length c0, .slice A1 acts.length c1] 81 (0, 0)) (rec .ready none)) (FX t acts tol w n (rec .done (some .ret))) ?kj0 ?kjs ?kjd ?kjc ?kyy).mono ?kfin
  case kj0 =>
    intro g Y hg0 hg1 hB
    rw [hs1] at hB
    exact ⟨hbel1.trans (hB.mono (by omega)), (hB.block n (by omega)).trans hb1, (hB.block _ (by omega)).trans hb4, (hB.block _ (by omega)).trans hb5, (hB.block _ (by omega)).trans hbt, (hB.block _ (by omega)).trans hbr, (hB.block _ (by omega)).trans hbs, by simp⟩
  case kjs =>
    intro g i X j v hg0 hJ
    exact hJ.move (below_set hJ.bel (by omega)) (by omega) (by omega) (fun k hk _ => Below.heap_setCell _ _ _ _ hk)
  case kjd => exact fun g i X hJ => ⟨below_drew hJ.bel, hJ.bx, hJ.df, hJ.lp, hJ.tb, hJ.r1, hJ.r2, hJ.no⟩
  case kjc => exact fun g i X hJ => Kd.C_below HR1.out hJ.bel
  case kyy =>
    clear hb1 hb4 hb5 hbt hbr hbs
    intro g n1 i X c xs hg0 hg1 hn1 hxs hJ hown
    obtain ⟨hbel, hbx, hdf, hlp, htb, hbr, hbs, hno⟩ := hJ
    rw [hs1] at hg0
    have hF := (mem_sets acts xs).1 (List.mem_of_getElem? hxs)
    have hxl := hF.length
    have htens : tens xs := tens_of hg.rng hF
    have hg1' : n + 3 ≤ X.heap.size := by omega
    refine round_of hrec hlp rfl ?_
    replace hlp := Aside0.mk hlp
    gi_wp2
    refine ⟨hlp.out, ?_⟩
    obtain ⟨Y, hY⟩ : ∃ Y, Y = X.putObj (n + 2) (.loop (rec .busy none)) := ⟨_, rfl⟩
    rw [← hY]
    have hYs : Y.heap.size = X.heap.size := by rw [hY]; simp
    have hYk : ∀ k, k ≠ n + 2 → Y.heap[k]? = X.heap[k]? := fun k hk => by rw [hY]; exact World.putObj_heap_other hk
    have hYl : Y.heap[n + 2]? = some (.loop (rec .busy none)) := by rw [hY]; exact World.putObj_heap_same (by omega)
    have hbY : Below w.heap.size w Y := by rw [hY]; exact below_put hbel (by omega) _
    have hownY := own_move hown (w1 := Y) (fun k hk => by
      have : g = k := by simpa [Value.ownBlock] using hk
      exact hYk k (by omega))
    have hgX : g < X.heap.size := own_lt hown g rfl
    have hCY := own_C hownY
    rw [hxl] at hCY
    have MX := Aside0.mk (fun W (hW : Below Y.heap.size Y W) => maximum_at A0 A1 (some ⟨g, 0, none⟩) c0 c1 c t acts xs acts.length W hg hxl htens (Kd.C_below HR0.out (hbY.trans (hW.mono hbY.size))) hc0 (Kd.C_below HR1.out (hbY.trans (hW.mono hbY.size))) hc1 (Kd.C_below hCY hW) (own_le hown))
    have ybx := (hYk n (by omega)).trans hbx
    have ytb : Boxed Y (w.heap.size + 1) 3 (.int .i64 tol) := (hYk _ (by omega)).trans htb
    have ytc := Boxed.cell ytb
    have yc0 : Y.cell? ⟨n, 0, none⟩ = some (.slice A0 t.length c0) := by simp [World.cell?, ybx]
    have yc1 : Y.cell? ⟨n, 1, none⟩ = some (.slice A1 acts.length c1) := by simp [World.cell?, ybx]
    have HBY := Aside0.mk hbY
    have HCY := Aside0.mk hCY
    have HHY := Aside0.mk (And.intro hYs (And.intro hYk hYl))
    have HHX := Aside0.mk (And.intro hbx (And.intro hbel (And.intro hdf (And.intro hlp.out (And.intro htb (And.intro hbr (And.intro hbs (And.intro hown hgX))))))))
    have HNO := Aside0.mk hno
    have CL := Aside0.mk (fun (W : World) (h : Kd.C (Kd.int .i64) W (some ⟨g, 0, none⟩) acts.length xs) => Clone_at (some ⟨g, 0, none⟩) c xs acts.length W hxl hg.m1 (Nat.le_trans hg.m3 (by decide)) h)
    generalize hn0 : maxd t acts xs = n0 at *
    have HN0 := Aside0.mk hn0
    clear hYk hYl hbel hdf hlp htb hbr hbs hown hownY hrec hbY hCY hgX hY hYs ybx hbx hno hn0
    gi_wp2
    refine wpIn_mono (Q := fun e a W => e = .normal ∧ a = { tmps := #[.agg #[.slice A0 t.length c0, .slice A1 acts.length c1], .int .i64 tol, .pointer (some ⟨w.heap.size, 0, none⟩), .pointer (some ⟨w.heap.size + 1, 0, none⟩), .pointer (some ⟨w.heap.size + 1 + 1, 0, none⟩), .pointer (some ⟨w.heap.size + 1 + 1 + 1, 0, none⟩), .pointer (some ⟨n, 0, none⟩), .int .i64 0, .slice (some ⟨g, 0, none⟩) acts.length c, .tuple #[.agg #[.slice A0 t.length c0, .slice A1 acts.length c1], .int .i64 0], .agg #[.slice A0 t.length c0, .slice A1 acts.length c1], .int .i64 tol, .tuple #[.agg #[.slice A0 t.length c0, .slice A1 acts.length c1], .int .i64 0], .agg #[.slice A0 t.length c0, .slice A1 acts.length c1], .int .i64 0, .int .i64 0, .bool false, undef, .agg #[.slice A0 t.length c0, .slice A1 acts.length c1], .func (.func 34) #[.agg #[.slice A0 t.length c0, .slice A1 acts.length c1]] #[], .slice (some ⟨g, 0, none⟩) acts.length c, .agg #[.slice A0 t.length c0, .slice A1 acts.length c1], .slice (some ⟨g, 0, none⟩) acts.length c, .int .i64 n0, .int .i64 tol, .bool (decide (n0 ≤ tol)), undef, undef], defers := [] } ∧ Below Y.heap.size Y W) ?_ ?_
    · skip
      refine wpIn_region_any (by kernel_rfl) ?_
      refine wpAnyIn_ready (rs := [0, 1, 3]) (by kernel_rfl) (by simp) ?_
      refine AllReadyIn.cons rfl (fun K hK => ?_) ?_
      · replace hK := Aside0.mk hK; simp only [List.getElem_toArray, List.getElem_cons_zero, List.getElem_cons_succ]; go_simp
        refine hK.out _ _ ?_
        clear hK K
        try simp only [Act.put, List.setIfInBounds_toArray, List.set_cons_zero, List.set_cons_succ]
        refine wpAnyIn_ready (rs := [1, 3]) (by kernel_rfl) (by simp) ?_
        refine AllReadyIn.cons rfl (fun K hK => ?_) ?_
        · replace hK := Aside0.mk hK; simp only [List.getElem_toArray, List.getElem_cons_zero, List.getElem_cons_succ]; go_simp
          refine hK.out _ _ ?_
          clear hK K
          try simp only [Act.put, List.setIfInBounds_toArray, List.set_cons_zero, List.set_cons_succ]
          refine wpAnyIn_ready (rs := [2, 3]) (by kernel_rfl) (by simp) ?_
          refine AllReadyIn.cons rfl (fun K hK => ?_) ?_
          · replace hK := Aside0.mk hK; simp only [List.getElem_toArray, List.getElem_cons_zero, List.getElem_cons_succ]; go_simp
            refine (CallsIn.inRound _ (callsIn_wide.2 (MX.out _ (by repeat (first | exact Below.refl _ _ | apply below_drew))))).mono ?_; rintro e Z ⟨rfl, hZ⟩; replace hZ : Below Y.heap.size Y Z := ⟨hZ.os, hZ.tape, hZ.output, hZ.size, hZ.block⟩; have ztb := blk_below ytb hZ; have ztc := Boxed.cell ztb
            refine hK.out _ _ ?_
            clear hK K
            try simp only [Act.put, List.setIfInBounds_toArray, List.set_cons_zero, List.set_cons_succ]
            refine wpAnyIn_ready (rs := [3]) (by kernel_rfl) (by simp) ?_
            refine AllReadyIn.cons rfl (fun K hK => ?_) ?_
            · replace hK := Aside0.mk hK; simp only [List.getElem_toArray, List.getElem_cons_zero, List.getElem_cons_succ]; go_simp
              refine hK.out _ _ ?_
              clear hK K
              try simp only [Act.put, List.setIfInBounds_toArray, List.set_cons_zero, List.set_cons_succ]
              refine wpAnyIn_ready (rs := [4]) (by kernel_rfl) (by simp) ?_
              refine AllReadyIn.cons rfl (fun K hK => ?_) ?_
              · replace hK := Aside0.mk hK; simp only [List.getElem_toArray, List.getElem_cons_zero, List.getElem_cons_succ]; go_simp
                refine hK.out _ _ ?_
                clear hK K
                try simp only [Act.put, List.setIfInBounds_toArray, List.set_cons_zero, List.set_cons_succ]
                refine wpAnyIn_done (by kernel_rfl) ?_ _
                exact ⟨rfl, rfl, hZ⟩
              exact AllReadyIn.nil
            exact AllReadyIn.nil
          refine AllReadyIn.cons rfl (fun K hK => ?_) ?_
          · replace hK := Aside0.mk hK; simp only [List.getElem_toArray, List.getElem_cons_zero, List.getElem_cons_succ]; go_simp
            refine hK.out _ _ ?_
            clear hK K
            try simp only [Act.put, List.setIfInBounds_toArray, List.set_cons_zero, List.set_cons_succ]
            refine wpAnyIn_ready (rs := [2]) (by kernel_rfl) (by simp) ?_
            refine AllReadyIn.cons rfl (fun K hK => ?_) ?_
            · replace hK := Aside0.mk hK; simp only [List.getElem_toArray, List.getElem_cons_zero, List.getElem_cons_succ]; go_simp
              refine (CallsIn.inRound _ (callsIn_wide.2 (MX.out _ (by repeat (first | exact Below.refl _ _ | apply below_drew))))).mono ?_; rintro e Z ⟨rfl, hZ⟩; replace hZ : Below Y.heap.size Y Z := ⟨hZ.os, hZ.tape, hZ.output, hZ.size, hZ.block⟩; have ztb := blk_below ytb hZ; have ztc := Boxed.cell ztb
              refine hK.out _ _ ?_
              clear hK K
              try simp only [Act.put, List.setIfInBounds_toArray, List.set_cons_zero, List.set_cons_succ]
              refine wpAnyIn_ready (rs := [4]) (by kernel_rfl) (by simp) ?_
              refine AllReadyIn.cons rfl (fun K hK => ?_) ?_
              · replace hK := Aside0.mk hK; simp only [List.getElem_toArray, List.getElem_cons_zero, List.getElem_cons_succ]; go_simp
                refine hK.out _ _ ?_
                clear hK K
                try simp only [Act.put, List.setIfInBounds_toArray, List.set_cons_zero, List.set_cons_succ]
                refine wpAnyIn_done (by kernel_rfl) ?_ _
                exact ⟨rfl, rfl, hZ⟩
              exact AllReadyIn.nil
            exact AllReadyIn.nil
          exact AllReadyIn.nil
        refine AllReadyIn.cons rfl (fun K hK => ?_) ?_
        · replace hK := Aside0.mk hK; simp only [List.getElem_toArray, List.getElem_cons_zero, List.getElem_cons_succ]; go_simp
          refine hK.out _ _ ?_
          clear hK K
          try simp only [Act.put, List.setIfInBounds_toArray, List.set_cons_zero, List.set_cons_succ]
          refine wpAnyIn_ready (rs := [1]) (by kernel_rfl) (by simp) ?_
          refine AllReadyIn.cons rfl (fun K hK => ?_) ?_
          · replace hK := Aside0.mk hK; simp only [List.getElem_toArray, List.getElem_cons_zero, List.getElem_cons_succ]; go_simp
            refine hK.out _ _ ?_
            clear hK K
            try simp only [Act.put, List.setIfInBounds_toArray, List.set_cons_zero, List.set_cons_succ]
            refine wpAnyIn_ready (rs := [2]) (by kernel_rfl) (by simp) ?_
            refine AllReadyIn.cons rfl (fun K hK => ?_) ?_
            · replace hK := Aside0.mk hK; simp only [List.getElem_toArray, List.getElem_cons_zero, List.getElem_cons_succ]; go_simp
              refine (CallsIn.inRound _ (callsIn_wide.2 (MX.out _ (by repeat (first | exact Below.refl _ _ | apply below_drew))))).mono ?_; rintro e Z ⟨rfl, hZ⟩; replace hZ : Below Y.heap.size Y Z := ⟨hZ.os, hZ.tape, hZ.output, hZ.size, hZ.block⟩; have ztb := blk_below ytb hZ; have ztc := Boxed.cell ztb
              refine hK.out _ _ ?_
              clear hK K
              try simp only [Act.put, List.setIfInBounds_toArray, List.set_cons_zero, List.set_cons_succ]
              refine wpAnyIn_ready (rs := [4]) (by kernel_rfl) (by simp) ?_
              refine AllReadyIn.cons rfl (fun K hK => ?_) ?_
              · replace hK := Aside0.mk hK; simp only [List.getElem_toArray, List.getElem_cons_zero, List.getElem_cons_succ]; go_simp
                refine hK.out _ _ ?_
                clear hK K
                try simp only [Act.put, List.setIfInBounds_toArray, List.set_cons_zero, List.set_cons_succ]
                refine wpAnyIn_done (by kernel_rfl) ?_ _
                exact ⟨rfl, rfl, hZ⟩
              exact AllReadyIn.nil
            exact AllReadyIn.nil
          exact AllReadyIn.nil
        exact AllReadyIn.nil
      refine AllReadyIn.cons rfl (fun K hK => ?_) ?_
      · replace hK := Aside0.mk hK; simp only [List.getElem_toArray, List.getElem_cons_zero, List.getElem_cons_succ]; go_simp
        refine hK.out _ _ ?_
        clear hK K
        try simp only [Act.put, List.setIfInBounds_toArray, List.set_cons_zero, List.set_cons_succ]
        refine wpAnyIn_ready (rs := [0, 3]) (by kernel_rfl) (by simp) ?_
        refine AllReadyIn.cons rfl (fun K hK => ?_) ?_
        · replace hK := Aside0.mk hK; simp only [List.getElem_toArray, List.getElem_cons_zero, List.getElem_cons_succ]; go_simp
          refine hK.out _ _ ?_
          clear hK K
          try simp only [Act.put, List.setIfInBounds_toArray, List.set_cons_zero, List.set_cons_succ]
          refine wpAnyIn_ready (rs := [2, 3]) (by kernel_rfl) (by simp) ?_
          refine AllReadyIn.cons rfl (fun K hK => ?_) ?_
          · replace hK := Aside0.mk hK; simp only [List.getElem_toArray, List.getElem_cons_zero, List.getElem_cons_succ]; go_simp
            refine (CallsIn.inRound _ (callsIn_wide.2 (MX.out _ (by repeat (first | exact Below.refl _ _ | apply below_drew))))).mono ?_; rintro e Z ⟨rfl, hZ⟩; replace hZ : Below Y.heap.size Y Z := ⟨hZ.os, hZ.tape, hZ.output, hZ.size, hZ.block⟩; have ztb := blk_below ytb hZ; have ztc := Boxed.cell ztb
            refine hK.out _ _ ?_
            clear hK K
            try simp only [Act.put, List.setIfInBounds_toArray, List.set_cons_zero, List.set_cons_succ]
            refine wpAnyIn_ready (rs := [3]) (by kernel_rfl) (by simp) ?_
            refine AllReadyIn.cons rfl (fun K hK => ?_) ?_
            · replace hK := Aside0.mk hK; simp only [List.getElem_toArray, List.getElem_cons_zero, List.getElem_cons_succ]; go_simp
              refine hK.out _ _ ?_
              clear hK K
              try simp only [Act.put, List.setIfInBounds_toArray, List.set_cons_zero, List.set_cons_succ]
              refine wpAnyIn_ready (rs := [4]) (by kernel_rfl) (by simp) ?_
              refine AllReadyIn.cons rfl (fun K hK => ?_) ?_
              · replace hK := Aside0.mk hK; simp only [List.getElem_toArray, List.getElem_cons_zero, List.getElem_cons_succ]; go_simp
                refine hK.out _ _ ?_
                clear hK K
                try simp only [Act.put, List.setIfInBounds_toArray, List.set_cons_zero, List.set_cons_succ]
                refine wpAnyIn_done (by kernel_rfl) ?_ _
                exact ⟨rfl, rfl, hZ⟩
              exact AllReadyIn.nil
            exact AllReadyIn.nil
          refine AllReadyIn.cons rfl (fun K hK => ?_) ?_
          · replace hK := Aside0.mk hK; simp only [List.getElem_toArray, List.getElem_cons_zero, List.getElem_cons_succ]; go_simp
            refine hK.out _ _ ?_
            clear hK K
            try simp only [Act.put, List.setIfInBounds_toArray, List.set_cons_zero, List.set_cons_succ]
            refine wpAnyIn_ready (rs := [2]) (by kernel_rfl) (by simp) ?_
            refine AllReadyIn.cons rfl (fun K hK => ?_) ?_
            · replace hK := Aside0.mk hK; simp only [List.getElem_toArray, List.getElem_cons_zero, List.getElem_cons_succ]; go_simp
              refine (CallsIn.inRound _ (callsIn_wide.2 (MX.out _ (by repeat (first | exact Below.refl _ _ | apply below_drew))))).mono ?_; rintro e Z ⟨rfl, hZ⟩; replace hZ : Below Y.heap.size Y Z := ⟨hZ.os, hZ.tape, hZ.output, hZ.size, hZ.block⟩; have ztb := blk_below ytb hZ; have ztc := Boxed.cell ztb
              refine hK.out _ _ ?_
              clear hK K
              try simp only [Act.put, List.setIfInBounds_toArray, List.set_cons_zero, List.set_cons_succ]
              refine wpAnyIn_ready (rs := [4]) (by kernel_rfl) (by simp) ?_
              refine AllReadyIn.cons rfl (fun K hK => ?_) ?_
              · replace hK := Aside0.mk hK; simp only [List.getElem_toArray, List.getElem_cons_zero, List.getElem_cons_succ]; go_simp
                refine hK.out _ _ ?_
                clear hK K
                try simp only [Act.put, List.setIfInBounds_toArray, List.set_cons_zero, List.set_cons_succ]
                refine wpAnyIn_done (by kernel_rfl) ?_ _
                exact ⟨rfl, rfl, hZ⟩
              exact AllReadyIn.nil
            exact AllReadyIn.nil
          exact AllReadyIn.nil
        refine AllReadyIn.cons rfl (fun K hK => ?_) ?_
        · replace hK := Aside0.mk hK; simp only [List.getElem_toArray, List.getElem_cons_zero, List.getElem_cons_succ]; go_simp
          refine hK.out _ _ ?_
          clear hK K
          try simp only [Act.put, List.setIfInBounds_toArray, List.set_cons_zero, List.set_cons_succ]
          refine wpAnyIn_ready (rs := [0]) (by kernel_rfl) (by simp) ?_
          refine AllReadyIn.cons rfl (fun K hK => ?_) ?_
          · replace hK := Aside0.mk hK; simp only [List.getElem_toArray, List.getElem_cons_zero, List.getElem_cons_succ]; go_simp
            refine hK.out _ _ ?_
            clear hK K
            try simp only [Act.put, List.setIfInBounds_toArray, List.set_cons_zero, List.set_cons_succ]
            refine wpAnyIn_ready (rs := [2]) (by kernel_rfl) (by simp) ?_
            refine AllReadyIn.cons rfl (fun K hK => ?_) ?_
            · replace hK := Aside0.mk hK; simp only [List.getElem_toArray, List.getElem_cons_zero, List.getElem_cons_succ]; go_simp
              refine (CallsIn.inRound _ (callsIn_wide.2 (MX.out _ (by repeat (first | exact Below.refl _ _ | apply below_drew))))).mono ?_; rintro e Z ⟨rfl, hZ⟩; replace hZ : Below Y.heap.size Y Z := ⟨hZ.os, hZ.tape, hZ.output, hZ.size, hZ.block⟩; have ztb := blk_below ytb hZ; have ztc := Boxed.cell ztb
              refine hK.out _ _ ?_
              clear hK K
              try simp only [Act.put, List.setIfInBounds_toArray, List.set_cons_zero, List.set_cons_succ]
              refine wpAnyIn_ready (rs := [4]) (by kernel_rfl) (by simp) ?_
              refine AllReadyIn.cons rfl (fun K hK => ?_) ?_
              · replace hK := Aside0.mk hK; simp only [List.getElem_toArray, List.getElem_cons_zero, List.getElem_cons_succ]; go_simp
                refine hK.out _ _ ?_
                clear hK K
                try simp only [Act.put, List.setIfInBounds_toArray, List.set_cons_zero, List.set_cons_succ]
                refine wpAnyIn_done (by kernel_rfl) ?_ _
                exact ⟨rfl, rfl, hZ⟩
              exact AllReadyIn.nil
            exact AllReadyIn.nil
          exact AllReadyIn.nil
        exact AllReadyIn.nil
      refine AllReadyIn.cons rfl (fun K hK => ?_) ?_
      · replace hK := Aside0.mk hK; simp only [List.getElem_toArray, List.getElem_cons_zero, List.getElem_cons_succ]; go_simp
        refine hK.out _ _ ?_
        clear hK K
        try simp only [Act.put, List.setIfInBounds_toArray, List.set_cons_zero, List.set_cons_succ]
        refine wpAnyIn_ready (rs := [0, 1]) (by kernel_rfl) (by simp) ?_
        refine AllReadyIn.cons rfl (fun K hK => ?_) ?_
        · replace hK := Aside0.mk hK; simp only [List.getElem_toArray, List.getElem_cons_zero, List.getElem_cons_succ]; go_simp
          refine hK.out _ _ ?_
          clear hK K
          try simp only [Act.put, List.setIfInBounds_toArray, List.set_cons_zero, List.set_cons_succ]
          refine wpAnyIn_ready (rs := [1]) (by kernel_rfl) (by simp) ?_
          refine AllReadyIn.cons rfl (fun K hK => ?_) ?_
          · replace hK := Aside0.mk hK; simp only [List.getElem_toArray, List.getElem_cons_zero, List.getElem_cons_succ]; go_simp
            refine hK.out _ _ ?_
            clear hK K
            try simp only [Act.put, List.setIfInBounds_toArray, List.set_cons_zero, List.set_cons_succ]
            refine wpAnyIn_ready (rs := [2]) (by kernel_rfl) (by simp) ?_
            refine AllReadyIn.cons rfl (fun K hK => ?_) ?_
            · replace hK := Aside0.mk hK; simp only [List.getElem_toArray, List.getElem_cons_zero, List.getElem_cons_succ]; go_simp
              refine (CallsIn.inRound _ (callsIn_wide.2 (MX.out _ (by repeat (first | exact Below.refl _ _ | apply below_drew))))).mono ?_; rintro e Z ⟨rfl, hZ⟩; replace hZ : Below Y.heap.size Y Z := ⟨hZ.os, hZ.tape, hZ.output, hZ.size, hZ.block⟩; have ztb := blk_below ytb hZ; have ztc := Boxed.cell ztb
              refine hK.out _ _ ?_
              clear hK K
              try simp only [Act.put, List.setIfInBounds_toArray, List.set_cons_zero, List.set_cons_succ]
              refine wpAnyIn_ready (rs := [4]) (by kernel_rfl) (by simp) ?_
              refine AllReadyIn.cons rfl (fun K hK => ?_) ?_
              · replace hK := Aside0.mk hK; simp only [List.getElem_toArray, List.getElem_cons_zero, List.getElem_cons_succ]; go_simp
                refine hK.out _ _ ?_
                clear hK K
                try simp only [Act.put, List.setIfInBounds_toArray, List.set_cons_zero, List.set_cons_succ]
                refine wpAnyIn_done (by kernel_rfl) ?_ _
                exact ⟨rfl, rfl, hZ⟩
              exact AllReadyIn.nil
            exact AllReadyIn.nil
          exact AllReadyIn.nil
        refine AllReadyIn.cons rfl (fun K hK => ?_) ?_
        · replace hK := Aside0.mk hK; simp only [List.getElem_toArray, List.getElem_cons_zero, List.getElem_cons_succ]; go_simp
          refine hK.out _ _ ?_
          clear hK K
          try simp only [Act.put, List.setIfInBounds_toArray, List.set_cons_zero, List.set_cons_succ]
          refine wpAnyIn_ready (rs := [0]) (by kernel_rfl) (by simp) ?_
          refine AllReadyIn.cons rfl (fun K hK => ?_) ?_
          · replace hK := Aside0.mk hK; simp only [List.getElem_toArray, List.getElem_cons_zero, List.getElem_cons_succ]; go_simp
            refine hK.out _ _ ?_
            clear hK K
            try simp only [Act.put, List.setIfInBounds_toArray, List.set_cons_zero, List.set_cons_succ]
            refine wpAnyIn_ready (rs := [2]) (by kernel_rfl) (by simp) ?_
            refine AllReadyIn.cons rfl (fun K hK => ?_) ?_
            · replace hK := Aside0.mk hK; simp only [List.getElem_toArray, List.getElem_cons_zero, List.getElem_cons_succ]; go_simp
              refine (CallsIn.inRound _ (callsIn_wide.2 (MX.out _ (by repeat (first | exact Below.refl _ _ | apply below_drew))))).mono ?_; rintro e Z ⟨rfl, hZ⟩; replace hZ : Below Y.heap.size Y Z := ⟨hZ.os, hZ.tape, hZ.output, hZ.size, hZ.block⟩; have ztb := blk_below ytb hZ; have ztc := Boxed.cell ztb
              refine hK.out _ _ ?_
              clear hK K
              try simp only [Act.put, List.setIfInBounds_toArray, List.set_cons_zero, List.set_cons_succ]
              refine wpAnyIn_ready (rs := [4]) (by kernel_rfl) (by simp) ?_
              refine AllReadyIn.cons rfl (fun K hK => ?_) ?_
              · replace hK := Aside0.mk hK; simp only [List.getElem_toArray, List.getElem_cons_zero, List.getElem_cons_succ]; go_simp
                refine hK.out _ _ ?_
                clear hK K
                try simp only [Act.put, List.setIfInBounds_toArray, List.set_cons_zero, List.set_cons_succ]
                refine wpAnyIn_done (by kernel_rfl) ?_ _
                exact ⟨rfl, rfl, hZ⟩
              exact AllReadyIn.nil
            exact AllReadyIn.nil
          exact AllReadyIn.nil
        exact AllReadyIn.nil
      exact AllReadyIn.nil
    · rintro e a Z ⟨rfl, rfl, hZ⟩
      have zr1 : Z.heap[w.heap.size + 1 + 1]? = some (.cells #[.slice none 0 0] 22 (0, 0)) := (hZ.block _ (by have := HHY.out.1; omega)).trans ((HHY.out.2.1 _ (by omega)).trans HHX.out.2.2.2.2.2.1)
      have zr2 : Z.heap[w.heap.size + 1 + 1 + 1]? = some (.cells #[.int .i64 0] 30 (0, 0)) := (hZ.block _ (by have := HHY.out.1; omega)).trans ((HHY.out.2.1 _ (by omega)).trans HHX.out.2.2.2.2.2.2.1)
      by_cases hle : n0 ≤ tol
      · gi_wp2_with (gi_at_call 36; refine (CallsIn.inRound _ (callsIn_wide.2 (CL.out Z (Kd.C_below HCY.out hZ)))).mono ?_; rintro e V ⟨g1, k1, rfl, hvown, hV⟩; have vr1 := blk_below zr1 hV; have vr2 := blk_below zr2 hV; have vc1 := Boxed.cell vr1; have vc2 := Boxed.cell vr2; have vf1 := Boxed.frozen vr1; have vf2 := Boxed.frozen vr2)
        obtain ⟨hYs, hYk, hYl⟩ := HHY.out
        obtain ⟨hbx, hbel, hdf, hlp, htb, hbr, hbs, hown, hgX⟩ := HHX.out
        have hZs := hZ.size
        have hVs := hV.size
        have hg1b := own_base hvown g1 rfl
        have hU : ∀ k, k ≠ w.heap.size + 2 → k ≠ w.heap.size + 3 → k < Y.heap.size → ((V.setCell ⟨w.heap.size + 1 + 1, 0, none⟩ (.slice (some ⟨g1, 0, none⟩) acts.length k1)).setCell ⟨w.heap.size + 1 + 1 + 1, 0, none⟩ (.int .i64 0)).heap[k]? = Y.heap[k]? := fun k h1 h2 h3 =>
          (Below.heap_setCell _ _ _ _ h2).trans ((Below.heap_setCell _ _ _ _ h1).trans ((hV.block k (by omega)).trans (hZ.block k h3)))
        have hUs : V.heap.size ≤ ((V.setCell ⟨w.heap.size + 1 + 1, 0, none⟩ (.slice (some ⟨g1, 0, none⟩) acts.length k1)).setCell ⟨w.heap.size + 1 + 1 + 1, 0, none⟩ (.int .i64 0)).heap.size := Nat.le_trans (KeepsWalks.setCell V _ _).size (KeepsWalks.setCell _ _ _).size
        have hU1 : ((V.setCell ⟨w.heap.size + 1 + 1, 0, none⟩ (.slice (some ⟨g1, 0, none⟩) acts.length k1)).setCell ⟨w.heap.size + 1 + 1 + 1, 0, none⟩ (.int .i64 0)).heap[w.heap.size + 2]? = some (.cells #[.slice (some ⟨g1, 0, none⟩) acts.length k1] 22 (0, 0)) := (Below.heap_setCell _ _ _ _ (show w.heap.size + 2 ≠ w.heap.size + 3 by omega)).trans (Boxed.set _ vr1)
        have hU2 : ((V.setCell ⟨w.heap.size + 1 + 1, 0, none⟩ (.slice (some ⟨g1, 0, none⟩) acts.length k1)).setCell ⟨w.heap.size + 1 + 1 + 1, 0, none⟩ (.int .i64 0)).heap[w.heap.size + 3]? = some (.cells #[.int .i64 0] 30 (0, 0)) := Boxed.set _ ((Below.heap_setCell _ _ _ _ (show w.heap.size + 3 ≠ w.heap.size + 2 by omega)).trans vr2)
        refine ⟨(hU _ (by omega) (by omega) (by omega)).trans hYl, .inr ⟨rfl, ⟨?_, ?_, World.putObj_heap_same (by omega), xs, .slice (some ⟨g1, 0, none⟩) acts.length k1, find_first hxs (by simpa [HN0.out] using hle) (fun s hs => by simpa using HNO.out s hs), ?_, ?_, ?_⟩⟩⟩
        · exact below_put (below_set (below_set ((HBY.out.trans (hZ.mono (by have := HBY.out.size; omega))).trans (hV.mono (by have := HBY.out.size; omega))) (by omega)) (by omega)) (by omega) _
        · exact (World.putObj_heap_other (by omega)).trans ((hU _ (by omega) (by omega) (by omega)).trans ((hYk _ (by omega)).trans hdf))
        · exact (World.putObj_heap_other (by omega)).trans hU1
        · exact (World.putObj_heap_other (by omega)).trans hU2
        · rw [hxl]
          exact own_weaken (own_move hvown (fun k hk => by
            have hk' : g1 = k := by simpa [Value.ownBlock] using hk
            subst hk'
            exact (World.putObj_heap_other (by omega)).trans ((Below.heap_setCell _ _ _ _ (show g1 ≠ w.heap.size + 3 by omega)).trans (Below.heap_setCell _ _ _ _ (show g1 ≠ w.heap.size + 2 by omega))))) (by omega)
      · gi_wp2
        obtain ⟨hYs, hYk, hYl⟩ := HHY.out
        obtain ⟨hbx, hbel, hdf, hlp, htb, hbr, hbs, hown, hgX⟩ := HHX.out
        have hZs := hZ.size
        have go : ∀ {k : Nat} {o : Obj}, k < n + 2 → X.heap[k]? = some o → (Z.putObj (n + 2) (.loop (rec .ready none))).heap[k]? = some o := fun {k o} hk h => (World.putObj_heap_other (by omega)).trans ((hZ.block k (by omega)).trans ((hYk k (by omega)).trans h))
        refine ⟨(hZ.block _ (by omega)).trans hYl, .inl ⟨rfl, ⟨below_put (HBY.out.trans (hZ.mono (by have := HBY.out.size; omega))) (by omega) _, go (by omega) hbx, go (by omega) hdf, World.putObj_heap_same (by omega), go (by omega) htb, go (by omega) hbr, go (by omega) hbs, ?_⟩, ?_, ?_⟩⟩
        · intro s hs
          obtain ⟨hil, hie⟩ := List.getElem?_eq_some_iff.1 hxs
          rw [List.take_succ_eq_append_getElem hil, hie, List.mem_append, List.mem_singleton] at hs
          rcases hs with hs | rfl
          · have := HNO.out s hs; omega
          · rw [HN0.out]; omega
        · rw [World.putObj_size]; omega
        · intro k hk1 hk2
          exact (World.putObj_heap_other (by omega)).trans ((hZ.block k (by omega)).trans (hYk k (by omega)))
  case kfin =>
    rintro e W3 ⟨⟨v0, rfl⟩, (⟨g, hJ⟩ | hX)⟩
    · refine ⟨⟨v0, rfl⟩, .ready, none, by decide, hJ.lp, ?_⟩
      obtain ⟨hbel, hbx, hdf, hlp, htb, hbr, hbs, hno⟩ := hJ
      obtain ⟨W4, hW4⟩ : ∃ W4, W4 = W3.putObj (n + 2) (.loop (rec .exhausted none)) := ⟨_, rfl⟩
      have hk4 : ∀ k, k ≠ n + 2 → W4.heap[k]? = W3.heap[k]? := fun k hk => by rw [hW4]; exact World.putObj_heap_other hk
      have hbel4 : Below w.heap.size w W4 := by rw [hW4]; exact below_put hbel (by omega) _
      have hr1 : Boxed W4 (w.heap.size + 1 + 1) 22 (.slice none 0 0) := (hk4 _ (by omega)).trans hbr
      have hr2 : Boxed W4 (w.heap.size + 1 + 1 + 1) 30 (.int .i64 0) := (hk4 _ (by omega)).trans hbs
      have hdf4 := (hk4 (n + 1) (by omega)).trans hdf
      have hnone : firstIn t acts tol = none := List.find?_eq_none.2 (fun s hs => by simpa using hno s (by rw [List.take_length]; exact hs))
      rw [← hW4]
      clear hbx hlp hrec hk4 hW4 hbr hbs hdf hbel hb1 hb4 hb5 hbt hno
      have hc1 := Boxed.cell hr1
      have hc2 := Boxed.cell hr2
      have hf1 := Boxed.frozen hr1
      have hf2 := Boxed.frozen hr2
      simp only [behindQ, marked]
      go_wp2
      refine marks_ret (D := n + 1) ((Below.heap_setCell _ _ _ _ (show n + 1 ≠ w.heap.size + 1 + 1 + 1 by omega)).trans ((Below.heap_setCell _ _ _ _ (show n + 1 ≠ w.heap.size + 1 + 1 by omega)).trans hdf4))
        (res12 _ _ ⟨w.heap.size + 1 + 1, 0, none⟩ ⟨w.heap.size + 1 + 1 + 1, 0, none⟩ (.slice none 0 0) (.int .i64 12) rfl rfl
          (Boxed.cell ((World.putObj_heap_other (by omega)).trans ((Below.heap_setCell _ _ _ _ (show w.heap.size + 1 + 1 ≠ w.heap.size + 1 + 1 + 1 by omega)).trans (Boxed.set _ hr1))))
          (Boxed.cell ((World.putObj_heap_other (by omega)).trans (Boxed.set _ ((Below.heap_setCell _ _ _ _ (show w.heap.size + 1 + 1 + 1 ≠ w.heap.size + 1 + 1 by omega)).trans hr2))))) ?_
      exact .inr ⟨rfl, hnone, below_put (below_set (below_set hbel4 (by omega)) (by omega)) (by omega) _⟩
    · refine ⟨⟨v0, rfl⟩, .done, some .ret, by decide, hX.lp, ?_⟩
      obtain ⟨hbel, hdf, hlp, s, v, hs, hbr, hbs, hvo⟩ := hX
      obtain ⟨W4, hW4⟩ : ∃ W4, W4 = W3.putObj (n + 2) (.loop (rec .exhausted (some .ret))) := ⟨_, rfl⟩
      have hk4 : ∀ k, k ≠ n + 2 → W4.heap[k]? = W3.heap[k]? := fun k hk => by rw [hW4]; exact World.putObj_heap_other hk
      have hbel4 : Below w.heap.size w W4 := by rw [hW4]; exact below_put hbel (by omega) _
      have hr1 : Boxed W4 (w.heap.size + 1 + 1) 22 v := (hk4 _ (by omega)).trans hbr
      have hr2 : Boxed W4 (w.heap.size + 1 + 1 + 1) 30 (.int .i64 0) := (hk4 _ (by omega)).trans hbs
      have hdf4 := (hk4 (n + 1) (by omega)).trans hdf
      have hvo4 := own_move hvo (w1 := W4) (fun k hk => hk4 k (by have := own_base hvo k hk; omega))
      rw [← hW4]
      clear hlp hrec hk4 hW4 hbr hbs hdf hbel hb1 hb4 hb5 hbt hvo
      refine wpIn_wide.2 ?_
      simp only [marked]
      go_wp2
      refine marks_ret (D := n + 1) hdf4
        (res12 _ _ ⟨w.heap.size + 1 + 1, 0, none⟩ ⟨w.heap.size + 1 + 1 + 1, 0, none⟩ v (.int .i64 0) rfl rfl
          (Boxed.cell ((World.putObj_heap_other (by omega)).trans hr1))
          (Boxed.cell ((World.putObj_heap_other (by omega)).trans hr2))) ?_
      exact .inl ⟨_, s, rfl, hs, own_weaken (own_move hvo4 (fun k hk => World.putObj_heap_other (by have := own_base hvo4 k hk; omega))) (by omega), below_put hbel4 (by omega) _⟩

end Go.Proofs.Ytbijfhmpafjceaa.E
