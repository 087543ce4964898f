/- Entries of known calls, checked by the kernel (level 0). -/
import Derived.Test.YtfdflggfffajaaaGreatDoorEnts
set_option linter.unusedVariables false
set_option linter.unusedSimpArgs false
set_option linter.unusedSectionVars false
namespace Go.Proofs.YtfdflggfffajaaaGreatDoor
open Go Go.Sym Go.Proofs
noncomputable section
set_option maxHeartbeats 0
set_option maxRecDepth 100000
def known1 : Tr (List Known) := .leaf
def cx1 : Ctx := ⟨Tryz.prog, tyTab, fnTab, rowsTab, known1⟩
theorem known1_ok : AllIx (KnowsAll Tryz.prog rowsTab) known1 1 0 := trivial
theorem cx1_ok : CtxOk cx1 := ⟨tys_ok tyTab_eq, fns_ok fnTab_eq fnTab_ok, mixed, known_ok known1_ok⟩
theorem check0 : checkEntry cx1 8 100000 156 ent0 = true := by kernel_rfl
theorem knows0 : Knows Tryz.prog rowsTab 156 ent0 := entry_sound cx1_ok check0
theorem check2 : checkEntry cx1 8 100000 113 ent2 = true := by kernel_rfl
theorem knows2 : Knows Tryz.prog rowsTab 113 ent2 := entry_sound cx1_ok check2
theorem check3 : checkEntry cx1 8 100000 113 ent3 = true := by kernel_rfl
theorem knows3 : Knows Tryz.prog rowsTab 113 ent3 := entry_sound cx1_ok check3
theorem check4 : checkEntry cx1 8 100000 156 ent4 = true := by kernel_rfl
theorem knows4 : Knows Tryz.prog rowsTab 156 ent4 := entry_sound cx1_ok check4
theorem check8 : checkEntry cx1 8 100000 76 ent8 = true := by kernel_rfl
theorem knows8 : Knows Tryz.prog rowsTab 76 ent8 := entry_sound cx1_ok check8
theorem check33 : checkEntry cx1 8 100000 171 ent33 = true := by kernel_rfl
theorem knows33 : Knows Tryz.prog rowsTab 171 ent33 := entry_sound cx1_ok check33
theorem check44 : checkEntry cx1 8 100000 126 ent44 = true := by kernel_rfl
theorem knows44 : Knows Tryz.prog rowsTab 126 ent44 := entry_sound cx1_ok check44
theorem check50 : checkEntry cx1 8 100000 289 ent50 = true := by kernel_rfl
theorem knows50 : Knows Tryz.prog rowsTab 289 ent50 := entry_sound cx1_ok check50
theorem check52 : checkEntry cx1 8 100000 289 ent52 = true := by kernel_rfl
theorem knows52 : Knows Tryz.prog rowsTab 289 ent52 := entry_sound cx1_ok check52
theorem check54 : checkEntry cx1 8 100000 255 ent54 = true := by kernel_rfl
theorem knows54 : Knows Tryz.prog rowsTab 255 ent54 := entry_sound cx1_ok check54
theorem check55 : checkEntry cx1 8 100000 257 ent55 = true := by kernel_rfl
theorem knows55 : Knows Tryz.prog rowsTab 257 ent55 := entry_sound cx1_ok check55
theorem check56 : checkEntry cx1 8 100000 257 ent56 = true := by kernel_rfl
theorem knows56 : Knows Tryz.prog rowsTab 257 ent56 := entry_sound cx1_ok check56
theorem check57 : checkEntry cx1 8 100000 257 ent57 = true := by kernel_rfl
theorem knows57 : Knows Tryz.prog rowsTab 257 ent57 := entry_sound cx1_ok check57
theorem check58 : checkEntry cx1 8 100000 289 ent58 = true := by kernel_rfl
theorem knows58 : Knows Tryz.prog rowsTab 289 ent58 := entry_sound cx1_ok check58
theorem check62 : checkEntry cx1 8 100000 221 ent62 = true := by kernel_rfl
theorem knows62 : Knows Tryz.prog rowsTab 221 ent62 := entry_sound cx1_ok check62
theorem check75 : checkEntry cx1 8 100000 310 ent75 = true := by kernel_rfl
theorem knows75 : Knows Tryz.prog rowsTab 310 ent75 := entry_sound cx1_ok check75
theorem check80 : checkEntry cx1 8 100000 272 ent80 = true := by kernel_rfl
theorem knows80 : Knows Tryz.prog rowsTab 272 ent80 := entry_sound cx1_ok check80
theorem check124 : checkEntry cx1 8 100000 282 ent124 = true := by kernel_rfl
theorem knows124 : Knows Tryz.prog rowsTab 282 ent124 := entry_sound cx1_ok check124
theorem check142 : checkEntry cx1 8 100000 282 ent142 = true := by kernel_rfl
theorem knows142 : Knows Tryz.prog rowsTab 282 ent142 := entry_sound cx1_ok check142
theorem check160 : checkEntry cx1 8 100000 282 ent160 = true := by kernel_rfl
theorem knows160 : Knows Tryz.prog rowsTab 282 ent160 := entry_sound cx1_ok check160
theorem check277 : checkEntry cx1 8 100000 56 ent277 = true := by kernel_rfl
theorem knows277 : Knows Tryz.prog rowsTab 56 ent277 := entry_sound cx1_ok check277
def known2 : Tr (List Known) := (.node (.node (.node (.node (.node (.node (.node (.node (.node .leaf (some [ent54]) .leaf) none .leaf) none .leaf) none .leaf) none .leaf) none .leaf) none (.node .leaf none (.node (.node .leaf none (.node (.node .leaf (some [ent33]) .leaf) none .leaf)) none .leaf))) none (.node (.node (.node (.node (.node (.node (.node .leaf (some [ent55, ent56, ent57]) .leaf) none .leaf) none .leaf) none (.node (.node (.node .leaf (some [ent50, ent52, ent58]) .leaf) none .leaf) none .leaf)) none (.node .leaf none (.node .leaf (some [ent2, ent3]) .leaf))) none .leaf) none (.node .leaf none (.node .leaf none (.node (.node .leaf none (.node .leaf (some [ent62]) .leaf)) none .leaf))))) none (.node (.node (.node (.node .leaf none (.node (.node (.node (.node .leaf (some [ent80]) .leaf) none .leaf) none .leaf) none .leaf)) none (.node .leaf none (.node .leaf (some [ent277]) .leaf))) none (.node .leaf none (.node (.node (.node .leaf (some [ent8]) .leaf) none .leaf) none (.node (.node (.node .leaf (some [ent0, ent4]) .leaf) none .leaf) none .leaf)))) none (.node (.node .leaf none (.node .leaf none (.node (.node (.node (.node .leaf (some [ent124, ent142, ent160]) .leaf) none .leaf) none .leaf) none .leaf))) none (.node (.node .leaf none (.node .leaf none (.node (.node (.node .leaf (some [ent75]) .leaf) none .leaf) none .leaf))) none (.node .leaf none (.node .leaf none (.node .leaf (some [ent44]) .leaf)))))))
def cx2 : Ctx := ⟨Tryz.prog, tyTab, fnTab, rowsTab, known2⟩
theorem known2_ok : AllIx (KnowsAll Tryz.prog rowsTab) known2 1 0 := (.none (.none (.none (.none (.none (.none (.none (.none (.some .leaf ⟨knows54, trivial⟩ .leaf) .leaf) .leaf) .leaf) .leaf) .leaf) (.none .leaf (.none (.none .leaf (.none (.some .leaf ⟨knows33, trivial⟩ .leaf) .leaf)) .leaf))) (.none (.none (.none (.none (.none (.none (.some .leaf ⟨knows55, knows56, knows57, trivial⟩ .leaf) .leaf) .leaf) (.none (.none (.some .leaf ⟨knows50, knows52, knows58, trivial⟩ .leaf) .leaf) .leaf)) (.none .leaf (.some .leaf ⟨knows2, knows3, trivial⟩ .leaf))) .leaf) (.none .leaf (.none .leaf (.none (.none .leaf (.some .leaf ⟨knows62, trivial⟩ .leaf)) .leaf))))) (.none (.none (.none (.none .leaf (.none (.none (.none (.some .leaf ⟨knows80, trivial⟩ .leaf) .leaf) .leaf) .leaf)) (.none .leaf (.some .leaf ⟨knows277, trivial⟩ .leaf))) (.none .leaf (.none (.none (.some .leaf ⟨knows8, trivial⟩ .leaf) .leaf) (.none (.none (.some .leaf ⟨knows0, knows4, trivial⟩ .leaf) .leaf) .leaf)))) (.none (.none .leaf (.none .leaf (.none (.none (.none (.some .leaf ⟨knows124, knows142, knows160, trivial⟩ .leaf) .leaf) .leaf) .leaf))) (.none (.none .leaf (.none .leaf (.none (.none (.some .leaf ⟨knows75, trivial⟩ .leaf) .leaf) .leaf))) (.none .leaf (.none .leaf (.some .leaf ⟨knows44, trivial⟩ .leaf)))))))
theorem cx2_ok : CtxOk cx2 := ⟨tys_ok tyTab_eq, fns_ok fnTab_eq fnTab_ok, mixed, known_ok known2_ok⟩
theorem check1 : checkEntry cx2 8 100000 113 ent1 = true := by kernel_rfl
theorem knows1 : Knows Tryz.prog rowsTab 113 ent1 := entry_sound cx2_ok check1
theorem check5 : checkEntry cx2 8 100000 116 ent5 = true := by kernel_rfl
theorem knows5 : Knows Tryz.prog rowsTab 116 ent5 := entry_sound cx2_ok check5
theorem check6 : checkEntry cx2 8 100000 116 ent6 = true := by kernel_rfl
theorem knows6 : Knows Tryz.prog rowsTab 116 ent6 := entry_sound cx2_ok check6
theorem check24 : checkEntry cx2 8 100000 250 ent24 = true := by kernel_rfl
theorem knows24 : Knows Tryz.prog rowsTab 250 ent24 := entry_sound cx2_ok check24
theorem check45 : checkEntry cx2 8 100000 172 ent45 = true := by kernel_rfl
theorem knows45 : Knows Tryz.prog rowsTab 172 ent45 := entry_sound cx2_ok check45
theorem check51 : checkEntry cx2 8 100000 255 ent51 = true := by kernel_rfl
theorem knows51 : Knows Tryz.prog rowsTab 255 ent51 := entry_sound cx2_ok check51
theorem check53 : checkEntry cx2 8 100000 255 ent53 = true := by kernel_rfl
theorem knows53 : Knows Tryz.prog rowsTab 255 ent53 := entry_sound cx2_ok check53
theorem check59 : checkEntry cx2 8 100000 258 ent59 = true := by kernel_rfl
theorem knows59 : Knows Tryz.prog rowsTab 258 ent59 := entry_sound cx2_ok check59
theorem check60 : checkEntry cx2 8 100000 258 ent60 = true := by kernel_rfl
theorem knows60 : Knows Tryz.prog rowsTab 258 ent60 := entry_sound cx2_ok check60
theorem check69 : checkEntry cx2 8 100000 318 ent69 = true := by kernel_rfl
theorem knows69 : Knows Tryz.prog rowsTab 318 ent69 := entry_sound cx2_ok check69
theorem check91 : checkEntry cx2 8 100000 255 ent91 = true := by kernel_rfl
theorem knows91 : Knows Tryz.prog rowsTab 255 ent91 := entry_sound cx2_ok check91
theorem check134 : checkEntry cx2 8 100000 284 ent134 = true := by kernel_rfl
theorem knows134 : Knows Tryz.prog rowsTab 284 ent134 := entry_sound cx2_ok check134
theorem check135 : checkEntry cx2 8 100000 318 ent135 = true := by kernel_rfl
theorem knows135 : Knows Tryz.prog rowsTab 318 ent135 := entry_sound cx2_ok check135
theorem check136 : checkEntry cx2 8 100000 255 ent136 = true := by kernel_rfl
theorem knows136 : Knows Tryz.prog rowsTab 255 ent136 := entry_sound cx2_ok check136
theorem check152 : checkEntry cx2 8 100000 284 ent152 = true := by kernel_rfl
theorem knows152 : Knows Tryz.prog rowsTab 284 ent152 := entry_sound cx2_ok check152
theorem check153 : checkEntry cx2 8 100000 318 ent153 = true := by kernel_rfl
theorem knows153 : Knows Tryz.prog rowsTab 318 ent153 := entry_sound cx2_ok check153
theorem check154 : checkEntry cx2 8 100000 255 ent154 = true := by kernel_rfl
theorem knows154 : Knows Tryz.prog rowsTab 255 ent154 := entry_sound cx2_ok check154
theorem check203 : checkEntry cx2 8 100000 318 ent203 = true := by kernel_rfl
theorem knows203 : Knows Tryz.prog rowsTab 318 ent203 := entry_sound cx2_ok check203
theorem check204 : checkEntry cx2 8 100000 255 ent204 = true := by kernel_rfl
theorem knows204 : Knows Tryz.prog rowsTab 255 ent204 := entry_sound cx2_ok check204
theorem check227 : checkEntry cx2 8 100000 318 ent227 = true := by kernel_rfl
theorem knows227 : Knows Tryz.prog rowsTab 318 ent227 := entry_sound cx2_ok check227
theorem check228 : checkEntry cx2 8 100000 318 ent228 = true := by kernel_rfl
theorem knows228 : Knows Tryz.prog rowsTab 318 ent228 := entry_sound cx2_ok check228
theorem check229 : checkEntry cx2 8 100000 255 ent229 = true := by kernel_rfl
theorem knows229 : Knows Tryz.prog rowsTab 255 ent229 := entry_sound cx2_ok check229
theorem check230 : checkEntry cx2 8 100000 255 ent230 = true := by kernel_rfl
theorem knows230 : Knows Tryz.prog rowsTab 255 ent230 := entry_sound cx2_ok check230
theorem check268 : checkEntry cx2 8 100000 318 ent268 = true := by kernel_rfl
theorem knows268 : Knows Tryz.prog rowsTab 318 ent268 := entry_sound cx2_ok check268
theorem check269 : checkEntry cx2 8 100000 318 ent269 = true := by kernel_rfl
theorem knows269 : Knows Tryz.prog rowsTab 318 ent269 := entry_sound cx2_ok check269
theorem check270 : checkEntry cx2 8 100000 255 ent270 = true := by kernel_rfl
theorem knows270 : Knows Tryz.prog rowsTab 255 ent270 := entry_sound cx2_ok check270
theorem check271 : checkEntry cx2 8 100000 255 ent271 = true := by kernel_rfl
theorem knows271 : Knows Tryz.prog rowsTab 255 ent271 := entry_sound cx2_ok check271
theorem check278 : checkEntry cx2 8 100000 55 ent278 = true := by kernel_rfl
theorem knows278 : Knows Tryz.prog rowsTab 55 ent278 := entry_sound cx2_ok check278
end
end Go.Proofs.YtfdflggfffajaaaGreatDoor
