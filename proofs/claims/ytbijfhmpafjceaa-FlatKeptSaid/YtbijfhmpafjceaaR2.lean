/- FlatKept: whatever the rules and the tolerance, the law answers true, and both arguments read afterwards as they did. No condition. -/
import Derived.Test.YtbijfhmpafjceaaRows
import Derived.Test.YtbijfhmpafjceaaR1
import Derived.Test.YtbijfhmpafjceaaP2
import Derived.WalkKit
import Derived.ProofKit
import Derived.OpenShut
import Derived.ShutString
import Derived.ChangeOld
import Derived.Below
import Derived.SizedLaws
import Derived.Test.YtbijfhmpafjceaaWSized
set_option linter.unusedSimpArgs false
namespace Go.Proofs.Ytbijfhmpafjceaa.flatKept
open Go.ChangeShapes Go.WideShapes Go.ChangeAt Go.RowKit Go.Proofs.YtbijfhmpafjceaaW.PrintWords Go.Proofs.Ytbijfhmpafjceaa.PFlatKept
set_option linter.unusedVariables false
theorem own : ownKnob Try.prog.godebug = none := by kernel_rfl
theorem laidOut : laidOutB Try.prog = true := by kernel_rfl
theorem opens39 : E.Opens Try.prog 39 k39 (fun _ => True) := by
  have hi := E.opens_int (P := Try.prog) (t := 3) Try.underlying3
  have h37 : E.Opens Try.prog 37 k37 (fun _ => True) :=
    (E.opens_iso (fun x : S37 => (x.f0, x.f1)) (fun a => ⟨a.1, a.2⟩) (fun _ => rfl) (E.opens_pair Try.underlying37 rfl rfl (by kernel_rfl) (by kernel_rfl) (by kernel_rfl) hi hi)).imp fun _ _ => trivial
  exact (E.opens_iso (fun x : S39 => (x.f0, x.f1)) (fun a => ⟨a.1, a.2⟩) (fun _ => rfl) (E.opens_pair Try.underlying39 rfl rfl (by kernel_rfl) (by kernel_rfl) (by kernel_rfl) h37 (E.opens_slice Try.underlying22 (by kernel_rfl) hi))).imp fun _ _ => trivial
theorem opens25 : E.Opens Try.prog 25 (Kd.pair (Kd.slice 3 (Kd.int .i64)) (Kd.slice 39 k39)) (fun _ => True) :=
  (E.opens_pair Try.underlying25 rfl rfl (by kernel_rfl) (by kernel_rfl) (by kernel_rfl) (E.opens_slice Try.underlying22 (by kernel_rfl) (E.opens_int Try.underlying3)) (E.opens_slice Try.underlying23 (by kernel_rfl) opens39)).imp fun _ _ => trivial
set_option maxRecDepth 100000 in
theorem lifted (os : Os) (started : os.Started) (H : Type) (enc : TypeId × Value → H) :
    ReturnsInHanded {} Try.checked os 3 .any (Rows.flatKeptSpec.pre6 enc Try.prog Try.f3 Rows.flatKeptRow.domain false) (Rows.flatKeptSpec.post enc Try.prog Try.f3 false true false false) := by
  refine returnsInHanded_of_change_sized (C := Try.checked) own started (by kernel_rfl) Try.func3
    (ChangeSpec.witness6 (enc := enc) (C := Try.checked) false ⟨#[], #[.agg #[.slice none 0 0, .slice none 0 0], .int .i64 0], []⟩ 8 (by kernel_rfl) (by kernel_rfl) (by kernel_rfl) (by kernel_rfl)) ?_
  intro W base args ds gs before hval0 hW hcnd hsz0 _
  have hval : ∀ (j : Nat) t v, Try.f3.params[j]? = some t → args[j]? = some v → Value.okWide Try.prog W .any base t v := hval0
  have hW' := hW
  obtain ⟨p, q, hA0, hV, rfl, hfz, hnd⟩ := hW
  have hA : DataW.TrodAll enc Try.prog W 0 (fun _ => true) true Try.f3.params.toList args.toList ds p := hA0
  rw [Try.params3] at hA hval
  obtain ⟨v0, vs0, d0, ds0, p0, q0, hargs, rfl, rfl, h0, r0⟩ := trodAll_cons hA
  obtain ⟨v1, vs1, d1, ds1, p1, q1, rfl, rfl, rfl, h1, r1⟩ := trodAll_cons r0
  obtain ⟨rfl, rfl, rfl⟩ := trodAll_nil r1
  obtain rfl : args = #[v0, v1] := by cases args; simp_all
  obtain ⟨rfl, rfl⟩ := trodVars_none hV
  obtain ⟨cs, rfl, _⟩ := okWide_struct Try.underlying25 (hval 0 25 v0 rfl rfl)
  have k0 := h0
  have lt0 : ∀ x ∈ p0, x.block < W.heap.size := by obtain ⟨m, hm⟩ := k0; exact DataW.trod_lt m _ _ _ hm
  obtain ⟨fuel, hf⟩ := h0
  obtain ⟨⟨tg, ac⟩, ⟨c0, c1, hcs, ⟨A0, e0, rfl, hl0, hC0⟩, ⟨A1, e1, rfl, hl1, hC1⟩⟩, _⟩ := opens25 H enc W 0 _ _ fuel _ _ hf
  obtain rfl : cs = #[.slice A0 tg.length e0, .slice A1 ac.length e1] := by
    cases cs
    simpa [Value.cells] using hcs
  obtain ⟨a1, rfl, rfl, rfl, w1⟩ := open_int Try.underlying3 (hval 1 3 v1 rfl rfl) h1
  clear hA0 hval0 hsz0 hf
  obtain ⟨k, hk⟩ := E.FlatKept_pure tg ac a1
  refine (cobblelaw07_FlatKept.calls k A0 e0 tg A1 e1 ac a1 true W hC0 hl0 hC1 hl1 hk).mono fun e W' ⟨he, bel⟩ => ?_
  subst he
  exact ⟨_, rfl, _, _, _, [], _, [], hW', trodAll_mk1 (shut_bool Try.underlying4 _), trodAll_cons_mk (Below.trod laidOut (by kernel_rfl) (of_decide_eq_true (by kernel_rfl)) k0 bel lt0) (trodAll_cons_mk (shut_int Try.underlying3 w1) trodAll_mk0), rfl, bel.frame _, fun h => by cases h⟩
theorem over : Rows.flatKeptRow.holds Try.pinned (OpenSpec.ofChange Rows.flatKeptSpec) :=
  OpenClaim.holds_of_wide 3 Try.f3 rfl rfl rfl rfl rfl rfl rfl ⟨rfl, rfl, rfl, rfl, rfl⟩ rfl rfl rfl rfl rfl (by kernel_rfl) Try.func3 (by kernel_rfl)
    (of_decide_eq_true (by kernel_rfl)) (by unfold Func.isWrapper; first | (rw [if_pos (by decide +kernel)]; kernel_rfl) | (rw [if_neg (by decide +kernel)]; exact ⟨rfl, rfl⟩))
    (fun os started H enc _ => lifted os started H enc)
theorem proved : Rows.FlatKeptSaid := over
#print axioms proved
end Go.Proofs.Ytbijfhmpafjceaa.flatKept
namespace Go.Proofs.Ytbijfhmpafjceaa
/-- The row, under a short name, for the claim. -/
theorem flatKept_holds : Rows.FlatKeptSaid := flatKept.proved
end Go.Proofs.Ytbijfhmpafjceaa
