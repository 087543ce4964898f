/- The closed facts of the card, one by one. -/
import Derived.Test.YtfdflggfffajaaaGreatDoorFactsA
set_option linter.unusedVariables false
set_option linter.unusedSimpArgs false
set_option linter.unusedSectionVars false
namespace Go.Proofs.YtfdflggfffajaaaGreatDoor
open Go Go.Proofs
set_option maxRecDepth 100000
noncomputable section
theorem byText : cr.wfByText (OpenSpec.ofChange sp) = true := by kernel_rfl
theorem mainIs : PP.mainIs = some (true, "778260d534f2854963ae1551ee28e37a82b7f94fa38022cc494409c2acfb47aa".toList) := by kernel_rfl
theorem looksNot : false = PP.looks [] := by kernel_rfl
theorem noStandIn : ([3, 26, 29, 3].all fun u => !PP.wantsStandIn u) = true := by kernel_rfl
theorem goesNot : false = cr.goesBy PP := by kernel_rfl
theorem lookPlain (f : FuncId) (fn : Func) (hf : PP.funcNamed cr.func = some f) (hfn : PP.funcs[f]? = some fn) : false = PP.looks [] ∧ ∀ (j : Nat) t, fn.params[j]? = some t → PP.wantsStandIn t = false := by
  obtain rfl : f = 3 := (Option.some.inj (named3.symm.trans hf)).symm
  have hfn3 : PP.funcs[3]? = some Tryz.f3 := Tryz.func3
  obtain rfl : fn = Tryz.f3 := (Option.some.inj (hfn3.symm.trans hfn)).symm
  refine ⟨looksNot, fun j t ht => ?_⟩
  rw [Tryz.params3] at ht
  have hm : t ∈ [3, 26, 29, 3] := by simpa using Array.mem_of_getElem? ht
  have := List.all_eq_true.1 noStandIn t hm
  simpa using this
end
end Go.Proofs.YtfdflggfffajaaaGreatDoor
