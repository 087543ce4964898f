/- Entries of known calls, checked by the kernel (level 1). -/
import Derived.Test.YtfdflggfffajaaaGreatDoorLv0
set_option linter.unusedVariables false
set_option linter.unusedSimpArgs false
set_option linter.unusedSectionVars false
namespace Go.Proofs.YtfdflggfffajaaaGreatDoor
open Go Go.Sym Go.Proofs
noncomputable section
set_option maxHeartbeats 0
set_option maxRecDepth 100000
def known3 : Tr (List Known) := (.node (.node (.node (.node (.node (.node (.node (.node (.node .leaf (some [ent51, ent53, ent54, ent91, ent136, ent154, ent204, ent229, ent230, ent270, ent271]) .leaf) none .leaf) none .leaf) none .leaf) none .leaf) none (.node .leaf none (.node .leaf (some [ent278]) .leaf))) none (.node .leaf none (.node (.node .leaf none (.node (.node .leaf (some [ent33]) .leaf) none .leaf)) none .leaf))) none (.node (.node (.node (.node (.node (.node (.node .leaf (some [ent55, ent56, ent57]) .leaf) none .leaf) none .leaf) none (.node (.node (.node .leaf (some [ent50, ent52, ent58]) .leaf) none .leaf) none .leaf)) none (.node .leaf none (.node .leaf (some [ent1, ent2, ent3]) .leaf))) none .leaf) none (.node .leaf none (.node .leaf none (.node (.node .leaf none (.node .leaf (some [ent62]) .leaf)) none .leaf))))) none (.node (.node (.node (.node .leaf none (.node (.node (.node (.node .leaf (some [ent80]) .leaf) none .leaf) none .leaf) none .leaf)) none (.node .leaf none (.node .leaf (some [ent277]) .leaf))) none (.node (.node .leaf none (.node .leaf none (.node .leaf (some [ent5, ent6]) .leaf))) none (.node (.node (.node .leaf (some [ent8]) .leaf) none (.node (.node .leaf (some [ent45]) .leaf) none .leaf)) none (.node (.node (.node (.node .leaf (some [ent134, ent152]) .leaf) (some [ent0, ent4]) .leaf) none .leaf) none .leaf)))) none (.node (.node (.node (.node (.node (.node (.node .leaf (some [ent59, ent60]) .leaf) none .leaf) none .leaf) none .leaf) none .leaf) none (.node .leaf none (.node (.node (.node (.node .leaf (some [ent124, ent142, ent160]) .leaf) none .leaf) none .leaf) none (.node .leaf none (.node .leaf (some [ent24]) .leaf))))) none (.node (.node .leaf none (.node .leaf none (.node (.node (.node .leaf (some [ent75]) .leaf) none .leaf) none .leaf))) none (.node .leaf none (.node .leaf none (.node (.node (.node .leaf (some [ent69, ent135, ent153, ent203, ent227, ent228, ent268, ent269]) .leaf) none .leaf) (some [ent44]) .leaf)))))))
def cx3 : Ctx := ⟨Tryz.prog, tyTab, fnTab, rowsTab, known3⟩
theorem known3_ok : AllIx (KnowsAll Tryz.prog rowsTab) known3 1 0 := (.none (.none (.none (.none (.none (.none (.none (.none (.some .leaf ⟨knows51, knows53, knows54, knows91, knows136, knows154, knows204, knows229, knows230, knows270, knows271, trivial⟩ .leaf) .leaf) .leaf) .leaf) .leaf) (.none .leaf (.some .leaf ⟨knows278, trivial⟩ .leaf))) (.none .leaf (.none (.none .leaf (.none (.some .leaf ⟨knows33, trivial⟩ .leaf) .leaf)) .leaf))) (.none (.none (.none (.none (.none (.none (.some .leaf ⟨knows55, knows56, knows57, trivial⟩ .leaf) .leaf) .leaf) (.none (.none (.some .leaf ⟨knows50, knows52, knows58, trivial⟩ .leaf) .leaf) .leaf)) (.none .leaf (.some .leaf ⟨knows1, knows2, knows3, trivial⟩ .leaf))) .leaf) (.none .leaf (.none .leaf (.none (.none .leaf (.some .leaf ⟨knows62, trivial⟩ .leaf)) .leaf))))) (.none (.none (.none (.none .leaf (.none (.none (.none (.some .leaf ⟨knows80, trivial⟩ .leaf) .leaf) .leaf) .leaf)) (.none .leaf (.some .leaf ⟨knows277, trivial⟩ .leaf))) (.none (.none .leaf (.none .leaf (.some .leaf ⟨knows5, knows6, trivial⟩ .leaf))) (.none (.none (.some .leaf ⟨knows8, trivial⟩ .leaf) (.none (.some .leaf ⟨knows45, trivial⟩ .leaf) .leaf)) (.none (.none (.some (.some .leaf ⟨knows134, knows152, trivial⟩ .leaf) ⟨knows0, knows4, trivial⟩ .leaf) .leaf) .leaf)))) (.none (.none (.none (.none (.none (.none (.some .leaf ⟨knows59, knows60, trivial⟩ .leaf) .leaf) .leaf) .leaf) .leaf) (.none .leaf (.none (.none (.none (.some .leaf ⟨knows124, knows142, knows160, trivial⟩ .leaf) .leaf) .leaf) (.none .leaf (.some .leaf ⟨knows24, trivial⟩ .leaf))))) (.none (.none .leaf (.none .leaf (.none (.none (.some .leaf ⟨knows75, trivial⟩ .leaf) .leaf) .leaf))) (.none .leaf (.none .leaf (.some (.none (.some .leaf ⟨knows69, knows135, knows153, knows203, knows227, knows228, knows268, knows269, trivial⟩ .leaf) .leaf) ⟨knows44, trivial⟩ .leaf)))))))
theorem cx3_ok : CtxOk cx3 := ⟨tys_ok tyTab_eq, fns_ok fnTab_eq fnTab_ok, mixed, known_ok known3_ok⟩
theorem check7 : checkEntry cx3 8 100000 75 ent7 = true := by kernel_rfl
theorem knows7 : Knows Tryz.prog rowsTab 75 ent7 := entry_sound cx3_ok check7
theorem check11 : checkEntry cx3 8 100000 250 ent11 = true := by kernel_rfl
theorem knows11 : Knows Tryz.prog rowsTab 250 ent11 := entry_sound cx3_ok check11
theorem check12 : checkEntry cx3 8 100000 251 ent12 = true := by kernel_rfl
theorem knows12 : Knows Tryz.prog rowsTab 251 ent12 := entry_sound cx3_ok check12
theorem check18 : checkEntry cx3 8 100000 250 ent18 = true := by kernel_rfl
theorem knows18 : Knows Tryz.prog rowsTab 250 ent18 := entry_sound cx3_ok check18
theorem check19 : checkEntry cx3 8 100000 251 ent19 = true := by kernel_rfl
theorem knows19 : Knows Tryz.prog rowsTab 251 ent19 := entry_sound cx3_ok check19
theorem check61 : checkEntry cx3 8 100000 220 ent61 = true := by kernel_rfl
theorem knows61 : Knows Tryz.prog rowsTab 220 ent61 := entry_sound cx3_ok check61
theorem check64 : checkEntry cx3 8 100000 317 ent64 = true := by kernel_rfl
theorem knows64 : Knows Tryz.prog rowsTab 317 ent64 := entry_sound cx3_ok check64
theorem check77 : checkEntry cx3 8 100000 317 ent77 = true := by kernel_rfl
theorem knows77 : Knows Tryz.prog rowsTab 317 ent77 := entry_sound cx3_ok check77
theorem check92 : checkEntry cx3 8 100000 317 ent92 = true := by kernel_rfl
theorem knows92 : Knows Tryz.prog rowsTab 317 ent92 := entry_sound cx3_ok check92
theorem check93 : checkEntry cx3 8 100000 318 ent93 = true := by kernel_rfl
theorem knows93 : Knows Tryz.prog rowsTab 318 ent93 := entry_sound cx3_ok check93
theorem check137 : checkEntry cx3 8 100000 317 ent137 = true := by kernel_rfl
theorem knows137 : Knows Tryz.prog rowsTab 317 ent137 := entry_sound cx3_ok check137
theorem check138 : checkEntry cx3 8 100000 318 ent138 = true := by kernel_rfl
theorem knows138 : Knows Tryz.prog rowsTab 318 ent138 := entry_sound cx3_ok check138
theorem check155 : checkEntry cx3 8 100000 317 ent155 = true := by kernel_rfl
theorem knows155 : Knows Tryz.prog rowsTab 317 ent155 := entry_sound cx3_ok check155
theorem check156 : checkEntry cx3 8 100000 318 ent156 = true := by kernel_rfl
theorem knows156 : Knows Tryz.prog rowsTab 318 ent156 := entry_sound cx3_ok check156
theorem check162 : checkEntry cx3 8 100000 275 ent162 = true := by kernel_rfl
theorem knows162 : Knows Tryz.prog rowsTab 275 ent162 := entry_sound cx3_ok check162
end
end Go.Proofs.YtfdflggfffajaaaGreatDoor
