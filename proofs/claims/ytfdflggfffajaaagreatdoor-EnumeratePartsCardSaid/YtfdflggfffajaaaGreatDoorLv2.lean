/- Entries of known calls, checked by the kernel (level 2). -/
import Derived.Test.YtfdflggfffajaaaGreatDoorLv1
set_option linter.unusedVariables false
set_option linter.unusedSimpArgs false
set_option linter.unusedSectionVars false
namespace Go.Proofs.YtfdflggfffajaaaGreatDoor
open Go Go.Sym Go.Proofs
noncomputable section
set_option maxHeartbeats 0
set_option maxRecDepth 100000
def known4 : Tr (List Known) := (.node (.node (.node (.node (.node (.node (.node (.node (.node .leaf (some [ent51, ent53, ent54, ent91, ent136, ent154, ent204, ent229, ent230, ent270, ent271]) .leaf) none .leaf) none .leaf) none .leaf) none .leaf) none (.node .leaf none (.node .leaf (some [ent278]) .leaf))) none (.node (.node .leaf none (.node (.node (.node (.node .leaf (some [ent162]) .leaf) none .leaf) none .leaf) none .leaf)) none (.node (.node (.node .leaf (some [ent7]) .leaf) none (.node (.node .leaf (some [ent33]) .leaf) none .leaf)) none (.node .leaf none (.node .leaf none (.node .leaf (some [ent12, ent19]) .leaf)))))) none (.node (.node (.node (.node (.node (.node (.node .leaf (some [ent55, ent56, ent57]) .leaf) none .leaf) none .leaf) none (.node (.node (.node .leaf (some [ent50, ent52, ent58]) .leaf) none .leaf) none .leaf)) none (.node .leaf none (.node .leaf (some [ent1, ent2, ent3]) .leaf))) none .leaf) none (.node .leaf none (.node .leaf none (.node (.node .leaf none (.node .leaf (some [ent62]) .leaf)) none (.node (.node (.node .leaf (some [ent64, ent77, ent92, ent137, ent155]) .leaf) none .leaf) none .leaf)))))) none (.node (.node (.node (.node .leaf none (.node (.node (.node (.node .leaf (some [ent80]) .leaf) none .leaf) none .leaf) none .leaf)) none (.node .leaf none (.node .leaf (some [ent277]) .leaf))) none (.node (.node .leaf none (.node .leaf none (.node .leaf (some [ent5, ent6]) .leaf))) none (.node (.node (.node .leaf (some [ent8]) .leaf) none (.node (.node .leaf (some [ent45]) .leaf) none .leaf)) none (.node (.node (.node (.node .leaf (some [ent134, ent152]) .leaf) (some [ent0, ent4]) .leaf) none (.node .leaf (some [ent61]) .leaf)) none .leaf)))) none (.node (.node (.node (.node (.node (.node (.node .leaf (some [ent59, ent60]) .leaf) none .leaf) none .leaf) none .leaf) none .leaf) none (.node .leaf none (.node (.node (.node (.node .leaf (some [ent124, ent142, ent160]) .leaf) none .leaf) none .leaf) none (.node .leaf none (.node .leaf (some [ent11, ent18, ent24]) .leaf))))) none (.node (.node .leaf none (.node .leaf none (.node (.node (.node .leaf (some [ent75]) .leaf) none .leaf) none .leaf))) none (.node .leaf none (.node .leaf none (.node (.node (.node .leaf (some [ent69, ent93, ent135, ent138, ent153, ent156, ent203, ent227, ent228, ent268, ent269]) .leaf) none .leaf) (some [ent44]) .leaf)))))))
def cx4 : Ctx := ⟨Tryz.prog, tyTab, fnTab, rowsTab, known4⟩
theorem known4_ok : AllIx (KnowsAll Tryz.prog rowsTab) known4 1 0 := (.none (.none (.none (.none (.none (.none (.none (.none (.some .leaf ⟨knows51, knows53, knows54, knows91, knows136, knows154, knows204, knows229, knows230, knows270, knows271, trivial⟩ .leaf) .leaf) .leaf) .leaf) .leaf) (.none .leaf (.some .leaf ⟨knows278, trivial⟩ .leaf))) (.none (.none .leaf (.none (.none (.none (.some .leaf ⟨knows162, trivial⟩ .leaf) .leaf) .leaf) .leaf)) (.none (.none (.some .leaf ⟨knows7, trivial⟩ .leaf) (.none (.some .leaf ⟨knows33, trivial⟩ .leaf) .leaf)) (.none .leaf (.none .leaf (.some .leaf ⟨knows12, knows19, trivial⟩ .leaf)))))) (.none (.none (.none (.none (.none (.none (.some .leaf ⟨knows55, knows56, knows57, trivial⟩ .leaf) .leaf) .leaf) (.none (.none (.some .leaf ⟨knows50, knows52, knows58, trivial⟩ .leaf) .leaf) .leaf)) (.none .leaf (.some .leaf ⟨knows1, knows2, knows3, trivial⟩ .leaf))) .leaf) (.none .leaf (.none .leaf (.none (.none .leaf (.some .leaf ⟨knows62, trivial⟩ .leaf)) (.none (.none (.some .leaf ⟨knows64, knows77, knows92, knows137, knows155, trivial⟩ .leaf) .leaf) .leaf)))))) (.none (.none (.none (.none .leaf (.none (.none (.none (.some .leaf ⟨knows80, trivial⟩ .leaf) .leaf) .leaf) .leaf)) (.none .leaf (.some .leaf ⟨knows277, trivial⟩ .leaf))) (.none (.none .leaf (.none .leaf (.some .leaf ⟨knows5, knows6, trivial⟩ .leaf))) (.none (.none (.some .leaf ⟨knows8, trivial⟩ .leaf) (.none (.some .leaf ⟨knows45, trivial⟩ .leaf) .leaf)) (.none (.none (.some (.some .leaf ⟨knows134, knows152, trivial⟩ .leaf) ⟨knows0, knows4, trivial⟩ .leaf) (.some .leaf ⟨knows61, trivial⟩ .leaf)) .leaf)))) (.none (.none (.none (.none (.none (.none (.some .leaf ⟨knows59, knows60, trivial⟩ .leaf) .leaf) .leaf) .leaf) .leaf) (.none .leaf (.none (.none (.none (.some .leaf ⟨knows124, knows142, knows160, trivial⟩ .leaf) .leaf) .leaf) (.none .leaf (.some .leaf ⟨knows11, knows18, knows24, trivial⟩ .leaf))))) (.none (.none .leaf (.none .leaf (.none (.none (.some .leaf ⟨knows75, trivial⟩ .leaf) .leaf) .leaf))) (.none .leaf (.none .leaf (.some (.none (.some .leaf ⟨knows69, knows93, knows135, knows138, knows153, knows156, knows203, knows227, knows228, knows268, knows269, trivial⟩ .leaf) .leaf) ⟨knows44, trivial⟩ .leaf)))))))
theorem cx4_ok : CtxOk cx4 := ⟨tys_ok tyTab_eq, fns_ok fnTab_eq fnTab_ok, mixed, known_ok known4_ok⟩
theorem check9 : checkEntry cx4 8 100000 43 ent9 = true := by kernel_rfl
theorem knows9 : Knows Tryz.prog rowsTab 43 ent9 := entry_sound cx4_ok check9
theorem check13 : checkEntry cx4 8 100000 209 ent13 = true := by kernel_rfl
theorem knows13 : Knows Tryz.prog rowsTab 209 ent13 := entry_sound cx4_ok check13
theorem check20 : checkEntry cx4 8 100000 209 ent20 = true := by kernel_rfl
theorem knows20 : Knows Tryz.prog rowsTab 209 ent20 := entry_sound cx4_ok check20
theorem check25 : checkEntry cx4 8 100000 209 ent25 = true := by kernel_rfl
theorem knows25 : Knows Tryz.prog rowsTab 209 ent25 := entry_sound cx4_ok check25
theorem check63 : checkEntry cx4 8 100000 178 ent63 = true := by kernel_rfl
theorem knows63 : Knows Tryz.prog rowsTab 178 ent63 := entry_sound cx4_ok check63
theorem check70 : checkEntry cx4 8 100000 264 ent70 = true := by kernel_rfl
theorem knows70 : Knows Tryz.prog rowsTab 264 ent70 := entry_sound cx4_ok check70
theorem check73 : checkEntry cx4 8 100000 234 ent73 = true := by kernel_rfl
theorem knows73 : Knows Tryz.prog rowsTab 234 ent73 := entry_sound cx4_ok check73
theorem check76 : checkEntry cx4 8 100000 277 ent76 = true := by kernel_rfl
theorem knows76 : Knows Tryz.prog rowsTab 277 ent76 := entry_sound cx4_ok check76
theorem check94 : checkEntry cx4 8 100000 264 ent94 = true := by kernel_rfl
theorem knows94 : Knows Tryz.prog rowsTab 264 ent94 := entry_sound cx4_ok check94
theorem check99 : checkEntry cx4 8 100000 234 ent99 = true := by kernel_rfl
theorem knows99 : Knows Tryz.prog rowsTab 234 ent99 := entry_sound cx4_ok check99
theorem check139 : checkEntry cx4 8 100000 226 ent139 = true := by kernel_rfl
theorem knows139 : Knows Tryz.prog rowsTab 226 ent139 := entry_sound cx4_ok check139
theorem check140 : checkEntry cx4 8 100000 227 ent140 = true := by kernel_rfl
theorem knows140 : Knows Tryz.prog rowsTab 227 ent140 := entry_sound cx4_ok check140
theorem check157 : checkEntry cx4 8 100000 226 ent157 = true := by kernel_rfl
theorem knows157 : Knows Tryz.prog rowsTab 226 ent157 := entry_sound cx4_ok check157
theorem check158 : checkEntry cx4 8 100000 227 ent158 = true := by kernel_rfl
theorem knows158 : Knows Tryz.prog rowsTab 227 ent158 := entry_sound cx4_ok check158
theorem check205 : checkEntry cx4 8 100000 227 ent205 = true := by kernel_rfl
theorem knows205 : Knows Tryz.prog rowsTab 227 ent205 := entry_sound cx4_ok check205
theorem check235 : checkEntry cx4 8 100000 270 ent235 = true := by kernel_rfl
theorem knows235 : Knows Tryz.prog rowsTab 270 ent235 := entry_sound cx4_ok check235
theorem check238 : checkEntry cx4 8 100000 270 ent238 = true := by kernel_rfl
theorem knows238 : Knows Tryz.prog rowsTab 270 ent238 := entry_sound cx4_ok check238
theorem check267 : checkEntry cx4 8 100000 270 ent267 = true := by kernel_rfl
theorem knows267 : Knows Tryz.prog rowsTab 270 ent267 := entry_sound cx4_ok check267
theorem check274 : checkEntry cx4 8 100000 270 ent274 = true := by kernel_rfl
theorem knows274 : Knows Tryz.prog rowsTab 270 ent274 := entry_sound cx4_ok check274
end
end Go.Proofs.YtfdflggfffajaaaGreatDoor
