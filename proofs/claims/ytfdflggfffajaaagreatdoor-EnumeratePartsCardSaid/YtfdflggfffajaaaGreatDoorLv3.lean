/- Entries of known calls, checked by the kernel (level 3). -/
import Derived.Test.YtfdflggfffajaaaGreatDoorLv2
set_option linter.unusedVariables false
set_option linter.unusedSimpArgs false
set_option linter.unusedSectionVars false
namespace Go.Proofs.YtfdflggfffajaaaGreatDoor
open Go Go.Sym Go.Proofs
noncomputable section
set_option maxHeartbeats 0
set_option maxRecDepth 100000
def known5 : Tr (List Known) := (.node (.node (.node (.node (.node (.node (.node (.node (.node .leaf (some [ent51, ent53, ent54, ent91, ent136, ent154, ent204, ent229, ent230, ent270, ent271]) .leaf) none .leaf) none .leaf) none .leaf) none .leaf) none (.node .leaf none (.node .leaf (some [ent278]) .leaf))) none (.node (.node (.node .leaf none (.node .leaf none (.node .leaf (some [ent140, ent158, ent205]) .leaf))) none (.node (.node (.node (.node .leaf (some [ent162]) .leaf) none .leaf) none .leaf) none .leaf)) none (.node (.node (.node .leaf (some [ent7]) .leaf) (some [ent9]) (.node (.node .leaf (some [ent33]) .leaf) none .leaf)) none (.node .leaf none (.node .leaf none (.node .leaf (some [ent12, ent19]) .leaf)))))) none (.node (.node (.node (.node (.node (.node (.node .leaf (some [ent55, ent56, ent57]) .leaf) none .leaf) none .leaf) none (.node (.node (.node .leaf (some [ent50, ent52, ent58]) .leaf) none .leaf) none .leaf)) none (.node (.node .leaf none (.node .leaf (some [ent13, ent20, ent25]) .leaf)) none (.node .leaf (some [ent1, ent2, ent3]) .leaf))) none .leaf) none (.node (.node .leaf none (.node (.node (.node (.node .leaf (some [ent76]) .leaf) none .leaf) none .leaf) none .leaf)) none (.node .leaf none (.node (.node .leaf none (.node .leaf (some [ent62]) .leaf)) none (.node (.node (.node .leaf (some [ent64, ent77, ent92, ent137, ent155]) .leaf) none .leaf) none .leaf)))))) none (.node (.node (.node (.node .leaf none (.node (.node (.node (.node .leaf (some [ent80]) .leaf) none .leaf) none .leaf) none .leaf)) none (.node (.node (.node (.node (.node .leaf (some [ent70, ent94]) .leaf) none .leaf) none .leaf) none .leaf) none (.node .leaf (some [ent277]) .leaf))) none (.node (.node .leaf none (.node .leaf none (.node .leaf (some [ent5, ent6]) .leaf))) none (.node (.node (.node .leaf (some [ent8]) .leaf) none (.node (.node .leaf (some [ent45]) .leaf) none .leaf)) none (.node (.node (.node (.node .leaf (some [ent134, ent152]) .leaf) (some [ent0, ent4]) .leaf) none (.node .leaf (some [ent61]) .leaf)) none .leaf)))) none (.node (.node (.node (.node (.node (.node (.node .leaf (some [ent59, ent60]) .leaf) none .leaf) none .leaf) none (.node .leaf none (.node .leaf (some [ent139, ent157]) .leaf))) none (.node .leaf none (.node (.node .leaf (some [ent63]) .leaf) none .leaf))) none (.node (.node .leaf none (.node .leaf none (.node .leaf (some [ent73, ent99]) .leaf))) none (.node (.node (.node (.node .leaf (some [ent124, ent142, ent160]) .leaf) none .leaf) none .leaf) none (.node .leaf none (.node .leaf (some [ent11, ent18, ent24]) .leaf))))) none (.node (.node .leaf none (.node .leaf none (.node (.node (.node .leaf (some [ent75]) .leaf) none .leaf) none .leaf))) none (.node (.node (.node (.node (.node .leaf (some [ent235, ent238, ent267, ent274]) .leaf) none .leaf) none .leaf) none .leaf) none (.node .leaf none (.node (.node (.node .leaf (some [ent69, ent93, ent135, ent138, ent153, ent156, ent203, ent227, ent228, ent268, ent269]) .leaf) none .leaf) (some [ent44]) .leaf)))))))
def cx5 : Ctx := ⟨Tryz.prog, tyTab, fnTab, rowsTab, known5⟩
theorem known5_ok : AllIx (KnowsAll Tryz.prog rowsTab) known5 1 0 := (.none (.none (.none (.none (.none (.none (.none (.none (.some .leaf ⟨knows51, knows53, knows54, knows91, knows136, knows154, knows204, knows229, knows230, knows270, knows271, trivial⟩ .leaf) .leaf) .leaf) .leaf) .leaf) (.none .leaf (.some .leaf ⟨knows278, trivial⟩ .leaf))) (.none (.none (.none .leaf (.none .leaf (.some .leaf ⟨knows140, knows158, knows205, trivial⟩ .leaf))) (.none (.none (.none (.some .leaf ⟨knows162, trivial⟩ .leaf) .leaf) .leaf) .leaf)) (.none (.some (.some .leaf ⟨knows7, trivial⟩ .leaf) ⟨knows9, trivial⟩ (.none (.some .leaf ⟨knows33, trivial⟩ .leaf) .leaf)) (.none .leaf (.none .leaf (.some .leaf ⟨knows12, knows19, trivial⟩ .leaf)))))) (.none (.none (.none (.none (.none (.none (.some .leaf ⟨knows55, knows56, knows57, trivial⟩ .leaf) .leaf) .leaf) (.none (.none (.some .leaf ⟨knows50, knows52, knows58, trivial⟩ .leaf) .leaf) .leaf)) (.none (.none .leaf (.some .leaf ⟨knows13, knows20, knows25, trivial⟩ .leaf)) (.some .leaf ⟨knows1, knows2, knows3, trivial⟩ .leaf))) .leaf) (.none (.none .leaf (.none (.none (.none (.some .leaf ⟨knows76, trivial⟩ .leaf) .leaf) .leaf) .leaf)) (.none .leaf (.none (.none .leaf (.some .leaf ⟨knows62, trivial⟩ .leaf)) (.none (.none (.some .leaf ⟨knows64, knows77, knows92, knows137, knows155, trivial⟩ .leaf) .leaf) .leaf)))))) (.none (.none (.none (.none .leaf (.none (.none (.none (.some .leaf ⟨knows80, trivial⟩ .leaf) .leaf) .leaf) .leaf)) (.none (.none (.none (.none (.some .leaf ⟨knows70, knows94, trivial⟩ .leaf) .leaf) .leaf) .leaf) (.some .leaf ⟨knows277, trivial⟩ .leaf))) (.none (.none .leaf (.none .leaf (.some .leaf ⟨knows5, knows6, trivial⟩ .leaf))) (.none (.none (.some .leaf ⟨knows8, trivial⟩ .leaf) (.none (.some .leaf ⟨knows45, trivial⟩ .leaf) .leaf)) (.none (.none (.some (.some .leaf ⟨knows134, knows152, trivial⟩ .leaf) ⟨knows0, knows4, trivial⟩ .leaf) (.some .leaf ⟨knows61, trivial⟩ .leaf)) .leaf)))) (.none (.none (.none (.none (.none (.none (.some .leaf ⟨knows59, knows60, trivial⟩ .leaf) .leaf) .leaf) (.none .leaf (.some .leaf ⟨knows139, knows157, trivial⟩ .leaf))) (.none .leaf (.none (.some .leaf ⟨knows63, trivial⟩ .leaf) .leaf))) (.none (.none .leaf (.none .leaf (.some .leaf ⟨knows73, knows99, trivial⟩ .leaf))) (.none (.none (.none (.some .leaf ⟨knows124, knows142, knows160, trivial⟩ .leaf) .leaf) .leaf) (.none .leaf (.some .leaf ⟨knows11, knows18, knows24, trivial⟩ .leaf))))) (.none (.none .leaf (.none .leaf (.none (.none (.some .leaf ⟨knows75, trivial⟩ .leaf) .leaf) .leaf))) (.none (.none (.none (.none (.some .leaf ⟨knows235, knows238, knows267, knows274, trivial⟩ .leaf) .leaf) .leaf) .leaf) (.none .leaf (.some (.none (.some .leaf ⟨knows69, knows93, knows135, knows138, knows153, knows156, knows203, knows227, knows228, knows268, knows269, trivial⟩ .leaf) .leaf) ⟨knows44, trivial⟩ .leaf)))))))
theorem cx5_ok : CtxOk cx5 := ⟨tys_ok tyTab_eq, fns_ok fnTab_eq fnTab_ok, mixed, known_ok known5_ok⟩
theorem check10 : checkEntry cx5 8 100000 71 ent10 = true := by kernel_rfl
theorem knows10 : Knows Tryz.prog rowsTab 71 ent10 := entry_sound cx5_ok check10
theorem check14 : checkEntry cx5 8 100000 77 ent14 = true := by kernel_rfl
theorem knows14 : Knows Tryz.prog rowsTab 77 ent14 := entry_sound cx5_ok check14
theorem check15 : checkEntry cx5 8 100000 79 ent15 = true := by kernel_rfl
theorem knows15 : Knows Tryz.prog rowsTab 79 ent15 := entry_sound cx5_ok check15
theorem check16 : checkEntry cx5 8 100000 80 ent16 = true := by kernel_rfl
theorem knows16 : Knows Tryz.prog rowsTab 80 ent16 := entry_sound cx5_ok check16
theorem check17 : checkEntry cx5 8 100000 168 ent17 = true := by kernel_rfl
theorem knows17 : Knows Tryz.prog rowsTab 168 ent17 := entry_sound cx5_ok check17
theorem check26 : checkEntry cx5 8 100000 77 ent26 = true := by kernel_rfl
theorem knows26 : Knows Tryz.prog rowsTab 77 ent26 := entry_sound cx5_ok check26
theorem check27 : checkEntry cx5 8 100000 79 ent27 = true := by kernel_rfl
theorem knows27 : Knows Tryz.prog rowsTab 79 ent27 := entry_sound cx5_ok check27
theorem check28 : checkEntry cx5 8 100000 80 ent28 = true := by kernel_rfl
theorem knows28 : Knows Tryz.prog rowsTab 80 ent28 := entry_sound cx5_ok check28
theorem check29 : checkEntry cx5 8 100000 77 ent29 = true := by kernel_rfl
theorem knows29 : Knows Tryz.prog rowsTab 77 ent29 := entry_sound cx5_ok check29
theorem check30 : checkEntry cx5 8 100000 79 ent30 = true := by kernel_rfl
theorem knows30 : Knows Tryz.prog rowsTab 79 ent30 := entry_sound cx5_ok check30
theorem check31 : checkEntry cx5 8 100000 80 ent31 = true := by kernel_rfl
theorem knows31 : Knows Tryz.prog rowsTab 80 ent31 := entry_sound cx5_ok check31
theorem check34 : checkEntry cx5 8 100000 168 ent34 = true := by kernel_rfl
theorem knows34 : Knows Tryz.prog rowsTab 168 ent34 := entry_sound cx5_ok check34
theorem check40 : checkEntry cx5 8 100000 77 ent40 = true := by kernel_rfl
theorem knows40 : Knows Tryz.prog rowsTab 77 ent40 := entry_sound cx5_ok check40
theorem check41 : checkEntry cx5 8 100000 79 ent41 = true := by kernel_rfl
theorem knows41 : Knows Tryz.prog rowsTab 79 ent41 := entry_sound cx5_ok check41
theorem check42 : checkEntry cx5 8 100000 80 ent42 = true := by kernel_rfl
theorem knows42 : Knows Tryz.prog rowsTab 80 ent42 := entry_sound cx5_ok check42
theorem check46 : checkEntry cx5 8 100000 48 ent46 = true := by kernel_rfl
theorem knows46 : Knows Tryz.prog rowsTab 48 ent46 := entry_sound cx5_ok check46
theorem check47 : checkEntry cx5 8 100000 49 ent47 = true := by kernel_rfl
theorem knows47 : Knows Tryz.prog rowsTab 49 ent47 := entry_sound cx5_ok check47
theorem check74 : checkEntry cx5 8 100000 181 ent74 = true := by kernel_rfl
theorem knows74 : Knows Tryz.prog rowsTab 181 ent74 := entry_sound cx5_ok check74
theorem check78 : checkEntry cx5 8 100000 264 ent78 = true := by kernel_rfl
theorem knows78 : Knows Tryz.prog rowsTab 264 ent78 := entry_sound cx5_ok check78
theorem check79 : checkEntry cx5 8 100000 234 ent79 = true := by kernel_rfl
theorem knows79 : Knows Tryz.prog rowsTab 234 ent79 := entry_sound cx5_ok check79
theorem check81 : checkEntry cx5 8 100000 266 ent81 = true := by kernel_rfl
theorem knows81 : Knows Tryz.prog rowsTab 266 ent81 := entry_sound cx5_ok check81
theorem check100 : checkEntry cx5 8 100000 181 ent100 = true := by kernel_rfl
theorem knows100 : Knows Tryz.prog rowsTab 181 ent100 := entry_sound cx5_ok check100
theorem check236 : checkEntry cx5 8 100000 187 ent236 = true := by kernel_rfl
theorem knows236 : Knows Tryz.prog rowsTab 187 ent236 := entry_sound cx5_ok check236
theorem check237 : checkEntry cx5 8 100000 188 ent237 = true := by kernel_rfl
theorem knows237 : Knows Tryz.prog rowsTab 188 ent237 := entry_sound cx5_ok check237
theorem check239 : checkEntry cx5 8 100000 187 ent239 = true := by kernel_rfl
theorem knows239 : Knows Tryz.prog rowsTab 187 ent239 := entry_sound cx5_ok check239
theorem check272 : checkEntry cx5 8 100000 187 ent272 = true := by kernel_rfl
theorem knows272 : Knows Tryz.prog rowsTab 187 ent272 := entry_sound cx5_ok check272
theorem check273 : checkEntry cx5 8 100000 188 ent273 = true := by kernel_rfl
theorem knows273 : Knows Tryz.prog rowsTab 188 ent273 := entry_sound cx5_ok check273
theorem check275 : checkEntry cx5 8 100000 187 ent275 = true := by kernel_rfl
theorem knows275 : Knows Tryz.prog rowsTab 187 ent275 := entry_sound cx5_ok check275
end
end Go.Proofs.YtfdflggfffajaaaGreatDoor
