import Derived.Test.YtbijfhmpafjceaaE4
import Derived.RangeFuncNested
import Derived.TacticsInMore
import Derived.LoopNIn
import Derived.LoopIn
set_option linter.unusedSimpArgs false
set_option linter.unusedVariables false
namespace Go.Proofs.Ytbijfhmpafjceaa.E
open Go.RowKit Go.Proofs.YtbijfhmpafjceaaW.PrintWords Go.Proofs.Ytbijfhmpafjceaa.PFlatKept

/-- A loop's record. -/
def recOf (fn : FuncId) (a : Act) (ps : Array Tmp) (assign body : Code) (d : Nat) (st : LoopState) (pe : Option Code) : Loop :=
  { state := st, pending := pe, fn := fn, tmps := a.tmps, params := ps, assign := assign, body := body, defers := d }
/-- The activation, marked with the block of the rounds' deferred calls. -/
def marked (a : Act) (d : Nat) : Act := { a with defers := { target := .collected d, args := #[] } :: a.defers }

/-- How a round's body may be left. -/
def roundQ (rec : LoopState → Option Code → Loop) (l : Nat) (R : Ending → World → Prop) : Exit → Act → World → Prop
  | .normal, _, W => W.heap[l]? = some (.loop (rec .busy none)) ∧ R (.returned (.bool true)) (W.putObj l (.loop (rec .ready none)))
  | .ret, _, W => W.heap[l]? = some (.loop (rec .busy none)) ∧ R (.returned (.bool false)) (W.putObj l (.loop (rec .done (some .ret))))
  | .exit id, _, W => W.heap[l]? = some (.loop (rec .busy none)) ∧ R (.returned (.bool false)) (W.putObj l (.loop (rec .done (some (.exit id)))))
  | _, _, _ => False

/-- One round of a loop whose record is told. -/
theorem round_at {P : Program} {l m : Nat} {fn : FuncId} {a : Act} {ps : Array Tmp} {assign body : Code} {d : Nat} {X : World} {args : Array Value} {R : Ending → World → Prop}
    (hl : X.heap[l]? = some (.loop (recOf fn a ps assign body d .ready none))) (hs : args.size = ps.size)
    (h : assign.wpIn (Fence.wide.inRound l) m P (Exit.then (fun a1 W1 => W1.heap[l]? = some (.loop (recOf fn a ps assign body d .ready none)) ∧
        body.wpIn (Fence.wide.inRound l) m P (roundQ (recOf fn a ps assign body d) l R) a1 (W1.putObj l (.loop (recOf fn a ps assign body d .busy none)))) (fun _ _ _ => False))
      { tmps := (ps.zip args).foldl (fun t (p, v) => t.setIfInBounds p v) a.tmps, defers := [] } X) :
    YieldAt Fence.wide m P l args X R := by
  have hy := run_yield (P := P) (args := args) hl hs
  refine ⟨fn, _, assign, body, hy, roundIn_of_wpIn trivial (wpIn_mono h ?_)⟩
  intro e a1 W1 hq
  cases e with
  | normal =>
    obtain ⟨hl1, hb⟩ := hq
    refine ⟨_, run_beginRound hl1 rfl, wpIn_mono hb ?_⟩
    intro e2 a2 W2 hq2
    have fin : ∀ jump : Option Code, W2.heap[l]? = some (.loop (recOf fn a ps assign body d .busy none)) → (Instr.endRound l jump).run P W2 = .ok (.bool jump.isNone) (W2.putObj l (.loop (recOf fn a ps assign body d (if jump.isNone then .ready else .done) jump))) := fun jump h2 => run_endRound jump h2
    cases e2 with
    | normal => exact ⟨_, _, fin none hq2.1, hq2.2⟩
    | ret => exact ⟨_, _, fin (some .ret) hq2.1, hq2.2⟩
    | exit id => exact ⟨_, _, fin (some (.exit id)) hq2.1, hq2.2⟩
    | goto t => exact hq2.elim
    | panic c => exact hq2.elim
    | outgrown => exact hq2.elim
  | ret => exact hq.elim
  | exit id => exact hq.elim
  | goto t => exact hq.elim
  | panic c => exact hq.elim
  | outgrown => exact hq.elim

/-- What is asked behind the function that is ranged over. -/
def behindQ (P : Program) (n : Nat) (Q : Exit → Act → World → Prop) (a : Act) : Option Code → World → Prop
  | none, W => Q .normal a W
  | some c, W => c.wpIn Fence.wide n P Q a W

/-- 'for .. := range g': the two blocks that are laid; the call; what is done behind it. -/
theorem range_at {P : Program} {n : Nat} {g : Operand} {ps : Array Tmp} {assign body : Code} {Q : Exit → Act → World → Prop} {a : Act} {w : World} {gf : Nat} {bd : Array Value}
    (hg : a.eval g = .func (.func gf) bd #[]) (eg : ∀ args w, (callFunc gf args).run P w = .ok (.enter gf args) w)
    (h : ∀ (fn : FuncId) (W1 : World), W1 = (w.alloc (.deferred (some []))).alloc (.loop (recOf fn a ps assign body w.heap.size .ready none)) →
      Calls P gf (bd ++ #[.func (.yield (w.heap.size + 1)) #[] #[]]) W1 fun e W2 => (∃ v, e = .returned v) ∧
        ∃ st jump, st ≠ .busy ∧ W2.heap[w.heap.size + 1]? = some (.loop (recOf fn a ps assign body w.heap.size st jump)) ∧
          behindQ P n Q (marked a w.heap.size) jump (W2.putObj (w.heap.size + 1) (.loop (recOf fn a ps assign body w.heap.size .exhausted jump)))) :
    (Code.rangeFunc g ps assign body).wpIn Fence.wide n P Q a w := by
  refine wpIn_rangeFunc ?_
  intro fn hfn
  obtain ⟨W1, hW1⟩ : ∃ W1, W1 = (w.alloc (.deferred (some []))).alloc (.loop (recOf fn a ps assign body w.heap.size .ready none)) := ⟨_, rfl⟩
  have he : (Instr.enterLoop fn a.tmps ps assign body Fence.wide.round).run P w = .ok (w.heap.size + 1, [{ target := .collected w.heap.size, args := #[] }]) W1 := by
    rw [hW1]; exact run_enterLoop_outer _ _ _ _ _
  have hc := h fn W1 hW1
  obtain ⟨d, hd⟩ : ∃ d : Deferred, d = { target := .fn (.func gf) #[], args := bd ++ #[.func (.yield (w.heap.size + 1)) #[] #[]] } := ⟨_, rfl⟩
  have hr : (resolve a.eval (rangeCall g (w.heap.size + 1)) 0).run P W1 = .ok d W1 := by
    rw [hd]; simp only [resolve, hg]; simp [go_sem]
  have hi : (invoke d.target d.args).run P W1 = .ok (.enter gf (bd ++ #[.func (.yield (w.heap.size + 1)) #[] #[]])) W1 := by
    rw [hd]; simp [invoke, go_sem, eg]
  refine ⟨w.heap.size + 1, _, W1, d, W1, gf, _, W1, he, hr, fun _ _ => trivial, hi, fun h => absurd h (by simp [Fence.wide]), callsIn_wide.2 (hc.mono ?_)⟩
  rintro e W2 ⟨⟨v, rfl⟩, st, jump, hb, hl, hq⟩
  have hend := run_endLoop (P := P) hl hb
  cases jump with
  | none => exact ⟨none, _, hend, hq⟩
  | some c => exact ⟨some c, _, hend, hq⟩

end Go.Proofs.Ytbijfhmpafjceaa.E
