/- The closed facts of the row, one by one. -/
import Derived.Test.YtfdflggfffajaaaGreatDoorCards
import Derived.Test.YtfdflggfffajaaaGreatDoorTie
import Derived.Clock
set_option linter.unusedVariables false
set_option linter.unusedSimpArgs false
set_option linter.unusedSectionVars false
namespace Go.Proofs.YtfdflggfffajaaaGreatDoor
open Go Go.Proofs
set_option maxRecDepth 100000
noncomputable section
abbrev PP : Program := Tryz.pinned.checked.prog
abbrev cr : OpenClaim := Rows.enumeratePartsRow
abbrev sp : ChangeSpec := Rows.enumeratePartsSpec
theorem k1 : cr.wf (OpenSpec.ofChange sp) = true := by kernel_rfl
theorem k2 : laidOutB PP = true := by kernel_rfl
theorem k3 : mapsRowed PP = true := by kernel_rfl
theorem k4 : Tryz.f3.params.all (PP.readableRec ·) = true := by kernel_rfl
theorem k5 : namedTie PP cr.named sp.vars = true := by kernel_rfl
theorem k6 : (cr.stops == []) = true := by kernel_rfl
theorem k7 : (PP.stops == []) = true := by kernel_rfl
theorem k8 : (cr.knobs == []) = true := by kernel_rfl
theorem k9 : (PP.stopKnobs == []) = true := by kernel_rfl
theorem k10 : (cr.inPlace == PP.inPlace 3) = true := by kernel_rfl
theorem k11 : (cr.unfollowed == PP.unfollowed 3) = true := by kernel_rfl
theorem k12 : (cr.recurses == PP.recurses 3) = true := by kernel_rfl
theorem k13 : (cr.named == PP.varsNamed 3) = true := by kernel_rfl
theorem k14 : (cr.maps == (Tryz.f3.params.toList ++ sp.plain.varTypes PP).any (PP.mapsRec ·)) = true := by kernel_rfl
theorem k15 : (cr.ifaces == (Tryz.f3.params.toList ++ sp.plain.varTypes PP).any (PP.ifacesRec ·)) = true := by kernel_rfl
theorem k16 : (cr.mapsOut == PP.mapsAmong Tryz.f3.resultTypes.toList) = true := by kernel_rfl
theorem k17 : (cr.loops == (Tryz.f3.params.toList ++ sp.plain.varTypes PP).any (PP.loopsFrom ·)) = true := by kernel_rfl
theorem k17b : (cr.wideKeys == (Tryz.f3.params.toList ++ sp.plain.varTypes PP ++ Tryz.f3.resultTypes.toList).any (PP.wideKeysFrom ·)) = true := by kernel_rfl
theorem k18 : sp.vars.all (PP.varReadable ·) = true := by kernel_rfl
theorem k19 : Tryz.f3.resultTypes.all (fun t => PP.readableRec t && decide (t < PP.types.size)) = true := by kernel_rfl
theorem k20 : (cr.ifacesOut == Tryz.f3.resultTypes.toList.any (PP.ifacesRec ·)) = true := by kernel_rfl
theorem k21 : (cr.loopsOut == Tryz.f3.resultTypes.toList.any (PP.loopsFrom ·)) = true := by kernel_rfl
theorem k22 : (cr.plainKeys == PP.plainKeys) = true := by kernel_rfl
theorem k23 : cr.shortTexts.isNone = true := by kernel_rfl
theorem k23b : PP.stopsHeard = true := by kernel_rfl
theorem k24 : PP.mayEnter = true := by kernel_rfl
theorem k24b : (cr.lifted == PP.liftsFinal) = true := by kernel_rfl
theorem k24c : (PP.make == some cr.make) = true := by kernel_rfl
theorem k25 : (cr.kinds == (if cr.domain.isEmpty then [] else Tryz.f3.params.toList.map fun t => match PP.underlying t with | some (.int k) => some k | _ => none)) = true := by kernel_rfl
theorem k26 : (cr.pinned == cr.pinnedBy) = true := by kernel_rfl
theorem k27 : (cr.veiled == (Tryz.f3.params.toList ++ sp.plain.varTypes PP ++ Tryz.f3.resultTypes.toList).any (PP.veiledRec ·)) = true := by kernel_rfl
theorem k28 : cr.veiledFits PP Tryz.f3.params.toList (Tryz.f3.params.toList ++ sp.plain.varTypes PP ++ Tryz.f3.resultTypes.toList) = true := by kernel_rfl
theorem closed : joinedFacts PP 3 Tryz.f3 sp cr = true := by
  simp only [joinedFacts, Bool.and_eq_true]
  exact ⟨⟨⟨⟨⟨⟨⟨⟨⟨⟨⟨⟨⟨⟨⟨⟨⟨⟨⟨⟨⟨⟨⟨⟨⟨⟨⟨⟨⟨⟨⟨k1, k2⟩, k3⟩, k4⟩, k5⟩, k6⟩, k7⟩, k8⟩, k9⟩, k10⟩, k11⟩, k12⟩, k13⟩, k14⟩, k15⟩, k16⟩, k17⟩, k17b⟩, k18⟩, k19⟩, k20⟩, k21⟩, k22⟩, k23⟩, k23b⟩, k24⟩, k24b⟩, k24c⟩, k25⟩, k26⟩, k27⟩, k28⟩
theorem named3 : PP.funcNamed cr.func = some 3 := by kernel_rfl
theorem isInst : Tryz.f3.isInstance PP cr.origin cr.targs := of_decide_eq_true (by kernel_rfl)
theorem isWrap : Tryz.f3.isWrapper PP cr.wrapper cr.mainSum := by
  unfold Func.isWrapper
  first | (rw [if_pos (by decide +kernel)]; kernel_rfl) | (rw [if_neg (by decide +kernel)]; exact ⟨rfl, rfl⟩)
end
end Go.Proofs.YtfdflggfffajaaaGreatDoor
