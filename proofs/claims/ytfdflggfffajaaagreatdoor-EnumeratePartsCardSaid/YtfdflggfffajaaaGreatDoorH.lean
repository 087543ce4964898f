/- The context of the walks, its types and functions. -/
import Derived.Test.YtfdflggfffajaaaGreatDoorGo
import Derived.Test.YtfdflggfffajaaaGreatDoorEnts
set_option linter.unusedVariables false
set_option linter.unusedSimpArgs false
set_option linter.unusedSectionVars false
namespace Go.Proofs.YtfdflggfffajaaaGreatDoor
open Go Go.Sym Go.Proofs
noncomputable section
def knownH : Tr (List Known) := .node .leaf none (.node .leaf none (.node .leaf (some [ent279]) .leaf))
def cxH : Ctx := ⟨Tryz.prog, tyTab, fnTab, rowsTab, knownH⟩
theorem ty_0 : ty cxH 0 = some (TI.of Tryz.t0 Tryz.t0) := by kernel_rfl
theorem ty_1 : ty cxH 1 = some (TI.of Tryz.t1 Tryz.t1) := by kernel_rfl
theorem ty_2 : ty cxH 2 = some (TI.of Tryz.t2 Tryz.t2) := by kernel_rfl
theorem ty_3 : ty cxH 3 = some (TI.of Tryz.t3 Tryz.t3) := by kernel_rfl
theorem ty_4 : ty cxH 4 = some (TI.of Tryz.t4 Tryz.t4) := by kernel_rfl
theorem ty_5 : ty cxH 5 = some (TI.of Tryz.t5 Tryz.t5) := by kernel_rfl
theorem ty_6 : ty cxH 6 = some (TI.of Tryz.t6 Tryz.t5) := by kernel_rfl
theorem ty_9 : ty cxH 9 = some (TI.of Tryz.t9 Tryz.t9) := by kernel_rfl
theorem ty_13 : ty cxH 13 = some (TI.of Tryz.t13 Tryz.t13) := by kernel_rfl
theorem ty_17 : ty cxH 17 = some (TI.of Tryz.t17 Tryz.t17) := by kernel_rfl
theorem ty_22 : ty cxH 22 = some (TI.of Tryz.t22 Tryz.t22) := by kernel_rfl
theorem ty_23 : ty cxH 23 = some (TI.of Tryz.t23 Tryz.t23) := by kernel_rfl
theorem ty_24 : ty cxH 24 = some (TI.of Tryz.t24 Tryz.t24) := by kernel_rfl
theorem ty_26 : ty cxH 26 = some (TI.of Tryz.t26 Tryz.t25) := by kernel_rfl
theorem ty_27 : ty cxH 27 = some (TI.of Tryz.t27 Tryz.t27) := by kernel_rfl
theorem ty_29 : ty cxH 29 = some (TI.of Tryz.t29 Tryz.t28) := by kernel_rfl
theorem ty_31 : ty cxH 31 = some (TI.of Tryz.t31 Tryz.t31) := by kernel_rfl
theorem ty_33 : ty cxH 33 = some (TI.of Tryz.t33 Tryz.t33) := by kernel_rfl
theorem ty_35 : ty cxH 35 = some (TI.of Tryz.t35 Tryz.t34) := by kernel_rfl
theorem ty_37 : ty cxH 37 = some (TI.of Tryz.t37 Tryz.t36) := by kernel_rfl
theorem ty_38 : ty cxH 38 = some (TI.of Tryz.t38 Tryz.t3) := by kernel_rfl
theorem ty_42 : ty cxH 42 = some (TI.of Tryz.t42 Tryz.t42) := by kernel_rfl
theorem ty_50 : ty cxH 50 = some (TI.of Tryz.t50 Tryz.t49) := by kernel_rfl
theorem ty_54 : ty cxH 54 = some (TI.of Tryz.t54 Tryz.t53) := by kernel_rfl
theorem ty_88 : ty cxH 88 = some (TI.of Tryz.t88 Tryz.t87) := by kernel_rfl
theorem ty_91 : ty cxH 91 = some (TI.of Tryz.t91 Tryz.t90) := by kernel_rfl
theorem ty_136 : ty cxH 136 = some (TI.of Tryz.t136 Tryz.t136) := by kernel_rfl
theorem ty_137 : ty cxH 137 = some (TI.of Tryz.t137 Tryz.t137) := by kernel_rfl
theorem ty_180 : ty cxH 180 = some (TI.of Tryz.t180 Tryz.t180) := by kernel_rfl
theorem ty_182 : ty cxH 182 = some (TI.of Tryz.t182 Tryz.t182) := by kernel_rfl
theorem fn_3 : cxH.fn.get 3 = some Tryz.f3 := by kernel_rfl
theorem fn_4 : cxH.fn.get 4 = some Tryz.f4 := by kernel_rfl
theorem fn_5 : cxH.fn.get 5 = some Tryz.f5 := by kernel_rfl
theorem fn_7 : cxH.fn.get 7 = some Tryz.f7 := by kernel_rfl
theorem fn_8 : cxH.fn.get 8 = some Tryz.f8 := by kernel_rfl
theorem fn_9 : cxH.fn.get 9 = some Tryz.f9 := by kernel_rfl
theorem fn_10 : cxH.fn.get 10 = some Tryz.f10 := by kernel_rfl
theorem fn_11 : cxH.fn.get 11 = some Tryz.f11 := by kernel_rfl
theorem fn_12 : cxH.fn.get 12 = some Tryz.f12 := by kernel_rfl
theorem fn_13 : cxH.fn.get 13 = some Tryz.f13 := by kernel_rfl
theorem fn_14 : cxH.fn.get 14 = some Tryz.f14 := by kernel_rfl
theorem fn_15 : cxH.fn.get 15 = some Tryz.f15 := by kernel_rfl
theorem fn_16 : cxH.fn.get 16 = some Tryz.f16 := by kernel_rfl
theorem fn_17 : cxH.fn.get 17 = some Tryz.f17 := by kernel_rfl
theorem fn_18 : cxH.fn.get 18 = some Tryz.f18 := by kernel_rfl
theorem fn_19 : cxH.fn.get 19 = some Tryz.f19 := by kernel_rfl
theorem fn_23 : cxH.fn.get 23 = some Tryz.f23 := by kernel_rfl
theorem fn_25 : cxH.fn.get 25 = some Tryz.f25 := by kernel_rfl
theorem fn_27 : cxH.fn.get 27 = some Tryz.f27 := by kernel_rfl
theorem fn_28 : cxH.fn.get 28 = some Tryz.f28 := by kernel_rfl
theorem fn_29 : cxH.fn.get 29 = some Tryz.f29 := by kernel_rfl
theorem fn_32 : cxH.fn.get 32 = some Tryz.f32 := by kernel_rfl
theorem fn_33 : cxH.fn.get 33 = some Tryz.f33 := by kernel_rfl
theorem fn_34 : cxH.fn.get 34 = some Tryz.f34 := by kernel_rfl
theorem fn_35 : cxH.fn.get 35 = some Tryz.f35 := by kernel_rfl
theorem fn_36 : cxH.fn.get 36 = some Tryz.f36 := by kernel_rfl
theorem fn_37 : cxH.fn.get 37 = some Tryz.f37 := by kernel_rfl
theorem fn_38 : cxH.fn.get 38 = some Tryz.f38 := by kernel_rfl
theorem fn_39 : cxH.fn.get 39 = some Tryz.f39 := by kernel_rfl
theorem fn_52 : cxH.fn.get 52 = some Tryz.f52 := by kernel_rfl
theorem fn_53 : cxH.fn.get 53 = some Tryz.f53 := by kernel_rfl
theorem fn_58 : cxH.fn.get 58 = some Tryz.f58 := by kernel_rfl
theorem fn_59 : cxH.fn.get 59 = some Tryz.f59 := by kernel_rfl
theorem fn_60 : cxH.fn.get 60 = some Tryz.f60 := by kernel_rfl
theorem fn_61 : cxH.fn.get 61 = some Tryz.f61 := by kernel_rfl
theorem fn_62 : cxH.fn.get 62 = some Tryz.f62 := by kernel_rfl
theorem fn_63 : cxH.fn.get 63 = some Tryz.f63 := by kernel_rfl
theorem fn_64 : cxH.fn.get 64 = some Tryz.f64 := by kernel_rfl
theorem fn_67 : cxH.fn.get 67 = some Tryz.f67 := by kernel_rfl
theorem fn_68 : cxH.fn.get 68 = some Tryz.f68 := by kernel_rfl
theorem fn_69 : cxH.fn.get 69 = some Tryz.f69 := by kernel_rfl
theorem fn_70 : cxH.fn.get 70 = some Tryz.f70 := by kernel_rfl
theorem fn_91 : cxH.fn.get 91 = some Tryz.f91 := by kernel_rfl
theorem fn_92 : cxH.fn.get 92 = some Tryz.f92 := by kernel_rfl
theorem fn_94 : cxH.fn.get 94 = some Tryz.f94 := by kernel_rfl
theorem fn_96 : cxH.fn.get 96 = some Tryz.f96 := by kernel_rfl
theorem fn_97 : cxH.fn.get 97 = some Tryz.f97 := by kernel_rfl
theorem fn_98 : cxH.fn.get 98 = some Tryz.f98 := by kernel_rfl
theorem fn_99 : cxH.fn.get 99 = some Tryz.f99 := by kernel_rfl
theorem fn_100 : cxH.fn.get 100 = some Tryz.f100 := by kernel_rfl
theorem fn_101 : cxH.fn.get 101 = some Tryz.f101 := by kernel_rfl
theorem fn_102 : cxH.fn.get 102 = some Tryz.f102 := by kernel_rfl
theorem fn_103 : cxH.fn.get 103 = some Tryz.f103 := by kernel_rfl
theorem fn_104 : cxH.fn.get 104 = some Tryz.f104 := by kernel_rfl
theorem fn_105 : cxH.fn.get 105 = some Tryz.f105 := by kernel_rfl
theorem fn_106 : cxH.fn.get 106 = some Tryz.f106 := by kernel_rfl
theorem fn_107 : cxH.fn.get 107 = some Tryz.f107 := by kernel_rfl
theorem fn_108 : cxH.fn.get 108 = some Tryz.f108 := by kernel_rfl
theorem fn_109 : cxH.fn.get 109 = some Tryz.f109 := by kernel_rfl
theorem fn_110 : cxH.fn.get 110 = some Tryz.f110 := by kernel_rfl
theorem fn_139 : cxH.fn.get 139 = some Tryz.f139 := by kernel_rfl
theorem fn_142 : cxH.fn.get 142 = some Tryz.f142 := by kernel_rfl
theorem fn_143 : cxH.fn.get 143 = some Tryz.f143 := by kernel_rfl
theorem fn_144 : cxH.fn.get 144 = some Tryz.f144 := by kernel_rfl
theorem fn_145 : cxH.fn.get 145 = some Tryz.f145 := by kernel_rfl
theorem fn_146 : cxH.fn.get 146 = some Tryz.f146 := by kernel_rfl
theorem fn_147 : cxH.fn.get 147 = some Tryz.f147 := by kernel_rfl
theorem fn_148 : cxH.fn.get 148 = some Tryz.f148 := by kernel_rfl
theorem fn_149 : cxH.fn.get 149 = some Tryz.f149 := by kernel_rfl
theorem fn_150 : cxH.fn.get 150 = some Tryz.f150 := by kernel_rfl
theorem fn_151 : cxH.fn.get 151 = some Tryz.f151 := by kernel_rfl
theorem fn_152 : cxH.fn.get 152 = some Tryz.f152 := by kernel_rfl
theorem fn_153 : cxH.fn.get 153 = some Tryz.f153 := by kernel_rfl
theorem fn_154 : cxH.fn.get 154 = some Tryz.f154 := by kernel_rfl
theorem fn_155 : cxH.fn.get 155 = some Tryz.f155 := by kernel_rfl
theorem fn_191 : cxH.fn.get 191 = some Tryz.f191 := by kernel_rfl
theorem fn_192 : cxH.fn.get 192 = some Tryz.f192 := by kernel_rfl
theorem fn_193 : cxH.fn.get 193 = some Tryz.f193 := by kernel_rfl
theorem fn_194 : cxH.fn.get 194 = some Tryz.f194 := by kernel_rfl
theorem fn_195 : cxH.fn.get 195 = some Tryz.f195 := by kernel_rfl
theorem fn_196 : cxH.fn.get 196 = some Tryz.f196 := by kernel_rfl
theorem fn_197 : cxH.fn.get 197 = some Tryz.f197 := by kernel_rfl
theorem fn_198 : cxH.fn.get 198 = some Tryz.f198 := by kernel_rfl
theorem fn_199 : cxH.fn.get 199 = some Tryz.f199 := by kernel_rfl
theorem fn_200 : cxH.fn.get 200 = some Tryz.f200 := by kernel_rfl
theorem fn_236 : cxH.fn.get 236 = some Tryz.f236 := by kernel_rfl
theorem fn_237 : cxH.fn.get 237 = some Tryz.f237 := by kernel_rfl
theorem fn_238 : cxH.fn.get 238 = some Tryz.f238 := by kernel_rfl
theorem fn_239 : cxH.fn.get 239 = some Tryz.f239 := by kernel_rfl
theorem fn_240 : cxH.fn.get 240 = some Tryz.f240 := by kernel_rfl
theorem fn_241 : cxH.fn.get 241 = some Tryz.f241 := by kernel_rfl
theorem fn_242 : cxH.fn.get 242 = some Tryz.f242 := by kernel_rfl
theorem fn_243 : cxH.fn.get 243 = some Tryz.f243 := by kernel_rfl
theorem fn_244 : cxH.fn.get 244 = some Tryz.f244 := by kernel_rfl
theorem fn_286 : cxH.fn.get 286 = some Tryz.f286 := by kernel_rfl
theorem un_3 : cxH.known.get 3 = none := by kernel_rfl
theorem un_4 : cxH.known.get 4 = none := by kernel_rfl
theorem un_5 : cxH.known.get 5 = none := by kernel_rfl
theorem un_7 : cxH.known.get 7 = none := by kernel_rfl
theorem un_8 : cxH.known.get 8 = none := by kernel_rfl
theorem un_9 : cxH.known.get 9 = none := by kernel_rfl
theorem un_10 : cxH.known.get 10 = none := by kernel_rfl
theorem un_11 : cxH.known.get 11 = none := by kernel_rfl
theorem un_12 : cxH.known.get 12 = none := by kernel_rfl
theorem un_13 : cxH.known.get 13 = none := by kernel_rfl
theorem un_14 : cxH.known.get 14 = none := by kernel_rfl
theorem un_15 : cxH.known.get 15 = none := by kernel_rfl
theorem un_16 : cxH.known.get 16 = none := by kernel_rfl
theorem un_17 : cxH.known.get 17 = none := by kernel_rfl
theorem un_18 : cxH.known.get 18 = none := by kernel_rfl
theorem un_19 : cxH.known.get 19 = none := by kernel_rfl
theorem un_23 : cxH.known.get 23 = none := by kernel_rfl
theorem un_25 : cxH.known.get 25 = none := by kernel_rfl
theorem un_27 : cxH.known.get 27 = none := by kernel_rfl
theorem un_28 : cxH.known.get 28 = none := by kernel_rfl
theorem un_29 : cxH.known.get 29 = none := by kernel_rfl
theorem un_32 : cxH.known.get 32 = none := by kernel_rfl
theorem un_33 : cxH.known.get 33 = none := by kernel_rfl
theorem un_34 : cxH.known.get 34 = none := by kernel_rfl
theorem un_35 : cxH.known.get 35 = none := by kernel_rfl
theorem un_36 : cxH.known.get 36 = none := by kernel_rfl
theorem un_37 : cxH.known.get 37 = none := by kernel_rfl
theorem un_38 : cxH.known.get 38 = none := by kernel_rfl
theorem un_39 : cxH.known.get 39 = none := by kernel_rfl
theorem un_52 : cxH.known.get 52 = none := by kernel_rfl
theorem un_53 : cxH.known.get 53 = none := by kernel_rfl
theorem un_58 : cxH.known.get 58 = none := by kernel_rfl
theorem un_59 : cxH.known.get 59 = none := by kernel_rfl
theorem un_60 : cxH.known.get 60 = none := by kernel_rfl
theorem un_61 : cxH.known.get 61 = none := by kernel_rfl
theorem un_62 : cxH.known.get 62 = none := by kernel_rfl
theorem un_63 : cxH.known.get 63 = none := by kernel_rfl
theorem un_64 : cxH.known.get 64 = none := by kernel_rfl
theorem un_67 : cxH.known.get 67 = none := by kernel_rfl
theorem un_68 : cxH.known.get 68 = none := by kernel_rfl
theorem un_69 : cxH.known.get 69 = none := by kernel_rfl
theorem un_70 : cxH.known.get 70 = none := by kernel_rfl
theorem un_91 : cxH.known.get 91 = none := by kernel_rfl
theorem un_92 : cxH.known.get 92 = none := by kernel_rfl
theorem un_94 : cxH.known.get 94 = none := by kernel_rfl
theorem un_96 : cxH.known.get 96 = none := by kernel_rfl
theorem un_97 : cxH.known.get 97 = none := by kernel_rfl
theorem un_98 : cxH.known.get 98 = none := by kernel_rfl
theorem un_99 : cxH.known.get 99 = none := by kernel_rfl
theorem un_100 : cxH.known.get 100 = none := by kernel_rfl
theorem un_101 : cxH.known.get 101 = none := by kernel_rfl
theorem un_102 : cxH.known.get 102 = none := by kernel_rfl
theorem un_103 : cxH.known.get 103 = none := by kernel_rfl
theorem un_104 : cxH.known.get 104 = none := by kernel_rfl
theorem un_105 : cxH.known.get 105 = none := by kernel_rfl
theorem un_106 : cxH.known.get 106 = none := by kernel_rfl
theorem un_107 : cxH.known.get 107 = none := by kernel_rfl
theorem un_108 : cxH.known.get 108 = none := by kernel_rfl
theorem un_109 : cxH.known.get 109 = none := by kernel_rfl
theorem un_110 : cxH.known.get 110 = none := by kernel_rfl
theorem un_139 : cxH.known.get 139 = none := by kernel_rfl
theorem un_142 : cxH.known.get 142 = none := by kernel_rfl
theorem un_143 : cxH.known.get 143 = none := by kernel_rfl
theorem un_144 : cxH.known.get 144 = none := by kernel_rfl
theorem un_145 : cxH.known.get 145 = none := by kernel_rfl
theorem un_146 : cxH.known.get 146 = none := by kernel_rfl
theorem un_147 : cxH.known.get 147 = none := by kernel_rfl
theorem un_148 : cxH.known.get 148 = none := by kernel_rfl
theorem un_149 : cxH.known.get 149 = none := by kernel_rfl
theorem un_150 : cxH.known.get 150 = none := by kernel_rfl
theorem un_151 : cxH.known.get 151 = none := by kernel_rfl
theorem un_152 : cxH.known.get 152 = none := by kernel_rfl
theorem un_153 : cxH.known.get 153 = none := by kernel_rfl
theorem un_154 : cxH.known.get 154 = none := by kernel_rfl
theorem un_155 : cxH.known.get 155 = none := by kernel_rfl
theorem un_191 : cxH.known.get 191 = none := by kernel_rfl
theorem un_192 : cxH.known.get 192 = none := by kernel_rfl
theorem un_193 : cxH.known.get 193 = none := by kernel_rfl
theorem un_194 : cxH.known.get 194 = none := by kernel_rfl
theorem un_195 : cxH.known.get 195 = none := by kernel_rfl
theorem un_196 : cxH.known.get 196 = none := by kernel_rfl
theorem un_197 : cxH.known.get 197 = none := by kernel_rfl
theorem un_198 : cxH.known.get 198 = none := by kernel_rfl
theorem un_199 : cxH.known.get 199 = none := by kernel_rfl
theorem un_200 : cxH.known.get 200 = none := by kernel_rfl
theorem un_236 : cxH.known.get 236 = none := by kernel_rfl
theorem un_237 : cxH.known.get 237 = none := by kernel_rfl
theorem un_238 : cxH.known.get 238 = none := by kernel_rfl
theorem un_239 : cxH.known.get 239 = none := by kernel_rfl
theorem un_240 : cxH.known.get 240 = none := by kernel_rfl
theorem un_241 : cxH.known.get 241 = none := by kernel_rfl
theorem un_242 : cxH.known.get 242 = none := by kernel_rfl
theorem un_243 : cxH.known.get 243 = none := by kernel_rfl
theorem un_244 : cxH.known.get 244 = none := by kernel_rfl
theorem un_286 : cxH.known.get 286 = none := by kernel_rfl
theorem call_3 {σ : St} {l : List Value} {K : Value → St → Prop} : Wfn cxH σ (.func (.func 3) #[] #[]) l K = C cxH 3 l σ K := Wfn_plain fn_3 rfl un_3
theorem call_4 {σ : St} {l : List Value} {K : Value → St → Prop} : Wfn cxH σ (.func (.func 4) #[] #[]) l K = C cxH 4 l σ K := Wfn_plain fn_4 rfl un_4
theorem call_5 {σ : St} {l : List Value} {K : Value → St → Prop} : Wfn cxH σ (.func (.func 5) #[] #[]) l K = C cxH 5 l σ K := Wfn_plain fn_5 rfl un_5
theorem call_7 {σ : St} {l : List Value} {K : Value → St → Prop} : Wfn cxH σ (.func (.func 7) #[] #[]) l K = C cxH 7 l σ K := Wfn_plain fn_7 rfl un_7
theorem call_8 {σ : St} {l : List Value} {K : Value → St → Prop} : Wfn cxH σ (.func (.func 8) #[] #[]) l K = C cxH 8 l σ K := Wfn_plain fn_8 rfl un_8
theorem call_9 {σ : St} {l : List Value} {K : Value → St → Prop} : Wfn cxH σ (.func (.func 9) #[] #[]) l K = C cxH 9 l σ K := Wfn_plain fn_9 rfl un_9
theorem call_10 {σ : St} {l : List Value} {K : Value → St → Prop} : Wfn cxH σ (.func (.func 10) #[] #[]) l K = C cxH 10 l σ K := Wfn_plain fn_10 rfl un_10
theorem call_11 {σ : St} {l : List Value} {K : Value → St → Prop} : Wfn cxH σ (.func (.func 11) #[] #[]) l K = C cxH 11 l σ K := Wfn_plain fn_11 rfl un_11
theorem call_12 {σ : St} {l : List Value} {K : Value → St → Prop} : Wfn cxH σ (.func (.func 12) #[] #[]) l K = C cxH 12 l σ K := Wfn_plain fn_12 rfl un_12
theorem call_13 {σ : St} {l : List Value} {K : Value → St → Prop} : Wfn cxH σ (.func (.func 13) #[] #[]) l K = C cxH 13 l σ K := Wfn_plain fn_13 rfl un_13
theorem call_14 {σ : St} {l : List Value} {K : Value → St → Prop} : Wfn cxH σ (.func (.func 14) #[] #[]) l K = C cxH 14 l σ K := Wfn_plain fn_14 rfl un_14
theorem call_15 {σ : St} {l : List Value} {K : Value → St → Prop} : Wfn cxH σ (.func (.func 15) #[] #[]) l K = C cxH 15 l σ K := Wfn_plain fn_15 rfl un_15
theorem call_16 {σ : St} {l : List Value} {K : Value → St → Prop} : Wfn cxH σ (.func (.func 16) #[] #[]) l K = C cxH 16 l σ K := Wfn_plain fn_16 rfl un_16
theorem call_17 {σ : St} {l : List Value} {K : Value → St → Prop} : Wfn cxH σ (.func (.func 17) #[] #[]) l K = C cxH 17 l σ K := Wfn_plain fn_17 rfl un_17
theorem call_18 {σ : St} {l : List Value} {K : Value → St → Prop} : Wfn cxH σ (.func (.func 18) #[] #[]) l K = C cxH 18 l σ K := Wfn_plain fn_18 rfl un_18
theorem call_19 {σ : St} {l : List Value} {K : Value → St → Prop} : Wfn cxH σ (.func (.func 19) #[] #[]) l K = C cxH 19 l σ K := Wfn_plain fn_19 rfl un_19
theorem call_23 {σ : St} {l : List Value} {K : Value → St → Prop} : Wfn cxH σ (.func (.func 23) #[] #[]) l K = C cxH 23 l σ K := Wfn_plain fn_23 rfl un_23
theorem call_25 {σ : St} {l : List Value} {K : Value → St → Prop} : Wfn cxH σ (.func (.func 25) #[] #[]) l K = C cxH 25 l σ K := Wfn_plain fn_25 rfl un_25
theorem call_27 {σ : St} {l : List Value} {K : Value → St → Prop} : Wfn cxH σ (.func (.func 27) #[] #[]) l K = C cxH 27 l σ K := Wfn_plain fn_27 rfl un_27
theorem call_28 {σ : St} {l : List Value} {K : Value → St → Prop} : Wfn cxH σ (.func (.func 28) #[] #[]) l K = C cxH 28 l σ K := Wfn_plain fn_28 rfl un_28
theorem call_29 {σ : St} {l : List Value} {K : Value → St → Prop} : Wfn cxH σ (.func (.func 29) #[] #[]) l K = C cxH 29 l σ K := Wfn_plain fn_29 rfl un_29
theorem call_32 {σ : St} {l : List Value} {K : Value → St → Prop} : Wfn cxH σ (.func (.func 32) #[] #[]) l K = C cxH 32 l σ K := Wfn_plain fn_32 rfl un_32
theorem call_33 {σ : St} {l : List Value} {K : Value → St → Prop} : Wfn cxH σ (.func (.func 33) #[] #[]) l K = C cxH 33 l σ K := Wfn_plain fn_33 rfl un_33
theorem call_34 {σ : St} {l : List Value} {K : Value → St → Prop} : Wfn cxH σ (.func (.func 34) #[] #[]) l K = C cxH 34 l σ K := Wfn_plain fn_34 rfl un_34
theorem call_35 {σ : St} {l : List Value} {K : Value → St → Prop} : Wfn cxH σ (.func (.func 35) #[] #[]) l K = C cxH 35 l σ K := Wfn_plain fn_35 rfl un_35
theorem call_36 {σ : St} {l : List Value} {K : Value → St → Prop} : Wfn cxH σ (.func (.func 36) #[] #[]) l K = C cxH 36 l σ K := Wfn_plain fn_36 rfl un_36
theorem call_37 {σ : St} {l : List Value} {K : Value → St → Prop} : Wfn cxH σ (.func (.func 37) #[] #[]) l K = C cxH 37 l σ K := Wfn_plain fn_37 rfl un_37
theorem call_38 {σ : St} {l : List Value} {K : Value → St → Prop} : Wfn cxH σ (.func (.func 38) #[] #[]) l K = C cxH 38 l σ K := Wfn_plain fn_38 rfl un_38
theorem call_39 {σ : St} {l : List Value} {K : Value → St → Prop} : Wfn cxH σ (.func (.func 39) #[] #[]) l K = C cxH 39 l σ K := Wfn_plain fn_39 rfl un_39
theorem call_52 {σ : St} {l : List Value} {K : Value → St → Prop} : Wfn cxH σ (.func (.func 52) #[] #[]) l K = C cxH 52 l σ K := Wfn_plain fn_52 rfl un_52
theorem call_53 {σ : St} {l : List Value} {K : Value → St → Prop} : Wfn cxH σ (.func (.func 53) #[] #[]) l K = C cxH 53 l σ K := Wfn_plain fn_53 rfl un_53
theorem call_58 {σ : St} {l : List Value} {K : Value → St → Prop} : Wfn cxH σ (.func (.func 58) #[] #[]) l K = C cxH 58 l σ K := Wfn_plain fn_58 rfl un_58
theorem call_59 {σ : St} {l : List Value} {K : Value → St → Prop} : Wfn cxH σ (.func (.func 59) #[] #[]) l K = C cxH 59 l σ K := Wfn_plain fn_59 rfl un_59
theorem call_60 {σ : St} {l : List Value} {K : Value → St → Prop} : Wfn cxH σ (.func (.func 60) #[] #[]) l K = C cxH 60 l σ K := Wfn_plain fn_60 rfl un_60
theorem call_61 {σ : St} {l : List Value} {K : Value → St → Prop} : Wfn cxH σ (.func (.func 61) #[] #[]) l K = C cxH 61 l σ K := Wfn_plain fn_61 rfl un_61
theorem call_62 {σ : St} {l : List Value} {K : Value → St → Prop} : Wfn cxH σ (.func (.func 62) #[] #[]) l K = C cxH 62 l σ K := Wfn_plain fn_62 rfl un_62
theorem call_63 {σ : St} {l : List Value} {K : Value → St → Prop} : Wfn cxH σ (.func (.func 63) #[] #[]) l K = C cxH 63 l σ K := Wfn_plain fn_63 rfl un_63
theorem call_64 {σ : St} {l : List Value} {K : Value → St → Prop} : Wfn cxH σ (.func (.func 64) #[] #[]) l K = C cxH 64 l σ K := Wfn_plain fn_64 rfl un_64
theorem call_67 {σ : St} {l : List Value} {K : Value → St → Prop} : Wfn cxH σ (.func (.func 67) #[] #[]) l K = C cxH 67 l σ K := Wfn_plain fn_67 rfl un_67
theorem call_68 {σ : St} {l : List Value} {K : Value → St → Prop} : Wfn cxH σ (.func (.func 68) #[] #[]) l K = C cxH 68 l σ K := Wfn_plain fn_68 rfl un_68
theorem call_69 {σ : St} {l : List Value} {K : Value → St → Prop} : Wfn cxH σ (.func (.func 69) #[] #[]) l K = C cxH 69 l σ K := Wfn_plain fn_69 rfl un_69
theorem call_70 {σ : St} {l : List Value} {K : Value → St → Prop} : Wfn cxH σ (.func (.func 70) #[] #[]) l K = C cxH 70 l σ K := Wfn_plain fn_70 rfl un_70
theorem call_91 {σ : St} {l : List Value} {K : Value → St → Prop} : Wfn cxH σ (.func (.func 91) #[] #[]) l K = C cxH 91 l σ K := Wfn_plain fn_91 rfl un_91
theorem call_92 {σ : St} {l : List Value} {K : Value → St → Prop} : Wfn cxH σ (.func (.func 92) #[] #[]) l K = C cxH 92 l σ K := Wfn_plain fn_92 rfl un_92
theorem call_94 {σ : St} {l : List Value} {K : Value → St → Prop} : Wfn cxH σ (.func (.func 94) #[] #[]) l K = C cxH 94 l σ K := Wfn_plain fn_94 rfl un_94
theorem call_96 {σ : St} {l : List Value} {K : Value → St → Prop} : Wfn cxH σ (.func (.func 96) #[] #[]) l K = C cxH 96 l σ K := Wfn_plain fn_96 rfl un_96
theorem call_97 {σ : St} {l : List Value} {K : Value → St → Prop} : Wfn cxH σ (.func (.func 97) #[] #[]) l K = C cxH 97 l σ K := Wfn_plain fn_97 rfl un_97
theorem call_98 {σ : St} {l : List Value} {K : Value → St → Prop} : Wfn cxH σ (.func (.func 98) #[] #[]) l K = C cxH 98 l σ K := Wfn_plain fn_98 rfl un_98
theorem call_99 {σ : St} {l : List Value} {K : Value → St → Prop} : Wfn cxH σ (.func (.func 99) #[] #[]) l K = C cxH 99 l σ K := Wfn_plain fn_99 rfl un_99
theorem call_100 {σ : St} {l : List Value} {K : Value → St → Prop} : Wfn cxH σ (.func (.func 100) #[] #[]) l K = C cxH 100 l σ K := Wfn_plain fn_100 rfl un_100
theorem call_101 {σ : St} {l : List Value} {K : Value → St → Prop} : Wfn cxH σ (.func (.func 101) #[] #[]) l K = C cxH 101 l σ K := Wfn_plain fn_101 rfl un_101
theorem call_102 {σ : St} {l : List Value} {K : Value → St → Prop} : Wfn cxH σ (.func (.func 102) #[] #[]) l K = C cxH 102 l σ K := Wfn_plain fn_102 rfl un_102
theorem call_103 {σ : St} {l : List Value} {K : Value → St → Prop} : Wfn cxH σ (.func (.func 103) #[] #[]) l K = C cxH 103 l σ K := Wfn_plain fn_103 rfl un_103
theorem call_104 {σ : St} {l : List Value} {K : Value → St → Prop} : Wfn cxH σ (.func (.func 104) #[] #[]) l K = C cxH 104 l σ K := Wfn_plain fn_104 rfl un_104
theorem call_105 {σ : St} {l : List Value} {K : Value → St → Prop} : Wfn cxH σ (.func (.func 105) #[] #[]) l K = C cxH 105 l σ K := Wfn_plain fn_105 rfl un_105
theorem call_106 {σ : St} {l : List Value} {K : Value → St → Prop} : Wfn cxH σ (.func (.func 106) #[] #[]) l K = C cxH 106 l σ K := Wfn_plain fn_106 rfl un_106
theorem call_107 {σ : St} {l : List Value} {K : Value → St → Prop} : Wfn cxH σ (.func (.func 107) #[] #[]) l K = C cxH 107 l σ K := Wfn_plain fn_107 rfl un_107
theorem call_108 {σ : St} {l : List Value} {K : Value → St → Prop} : Wfn cxH σ (.func (.func 108) #[] #[]) l K = C cxH 108 l σ K := Wfn_plain fn_108 rfl un_108
theorem call_109 {σ : St} {l : List Value} {K : Value → St → Prop} : Wfn cxH σ (.func (.func 109) #[] #[]) l K = C cxH 109 l σ K := Wfn_plain fn_109 rfl un_109
theorem call_110 {σ : St} {l : List Value} {K : Value → St → Prop} : Wfn cxH σ (.func (.func 110) #[] #[]) l K = C cxH 110 l σ K := Wfn_plain fn_110 rfl un_110
theorem call_139 {σ : St} {l : List Value} {K : Value → St → Prop} : Wfn cxH σ (.func (.func 139) #[] #[]) l K = C cxH 139 l σ K := Wfn_plain fn_139 rfl un_139
theorem call_142 {σ : St} {l : List Value} {K : Value → St → Prop} : Wfn cxH σ (.func (.func 142) #[] #[]) l K = C cxH 142 l σ K := Wfn_plain fn_142 rfl un_142
theorem call_143 {σ : St} {l : List Value} {K : Value → St → Prop} : Wfn cxH σ (.func (.func 143) #[] #[]) l K = C cxH 143 l σ K := Wfn_plain fn_143 rfl un_143
theorem call_144 {σ : St} {l : List Value} {K : Value → St → Prop} : Wfn cxH σ (.func (.func 144) #[] #[]) l K = C cxH 144 l σ K := Wfn_plain fn_144 rfl un_144
theorem call_145 {σ : St} {l : List Value} {K : Value → St → Prop} : Wfn cxH σ (.func (.func 145) #[] #[]) l K = C cxH 145 l σ K := Wfn_plain fn_145 rfl un_145
theorem call_146 {σ : St} {l : List Value} {K : Value → St → Prop} : Wfn cxH σ (.func (.func 146) #[] #[]) l K = C cxH 146 l σ K := Wfn_plain fn_146 rfl un_146
theorem call_147 {σ : St} {l : List Value} {K : Value → St → Prop} : Wfn cxH σ (.func (.func 147) #[] #[]) l K = C cxH 147 l σ K := Wfn_plain fn_147 rfl un_147
theorem call_148 {σ : St} {l : List Value} {K : Value → St → Prop} : Wfn cxH σ (.func (.func 148) #[] #[]) l K = C cxH 148 l σ K := Wfn_plain fn_148 rfl un_148
theorem call_149 {σ : St} {l : List Value} {K : Value → St → Prop} : Wfn cxH σ (.func (.func 149) #[] #[]) l K = C cxH 149 l σ K := Wfn_plain fn_149 rfl un_149
theorem call_150 {σ : St} {l : List Value} {K : Value → St → Prop} : Wfn cxH σ (.func (.func 150) #[] #[]) l K = C cxH 150 l σ K := Wfn_plain fn_150 rfl un_150
theorem call_151 {σ : St} {l : List Value} {K : Value → St → Prop} : Wfn cxH σ (.func (.func 151) #[] #[]) l K = C cxH 151 l σ K := Wfn_plain fn_151 rfl un_151
theorem call_152 {σ : St} {l : List Value} {K : Value → St → Prop} : Wfn cxH σ (.func (.func 152) #[] #[]) l K = C cxH 152 l σ K := Wfn_plain fn_152 rfl un_152
theorem call_153 {σ : St} {l : List Value} {K : Value → St → Prop} : Wfn cxH σ (.func (.func 153) #[] #[]) l K = C cxH 153 l σ K := Wfn_plain fn_153 rfl un_153
theorem call_154 {σ : St} {l : List Value} {K : Value → St → Prop} : Wfn cxH σ (.func (.func 154) #[] #[]) l K = C cxH 154 l σ K := Wfn_plain fn_154 rfl un_154
theorem call_155 {σ : St} {l : List Value} {K : Value → St → Prop} : Wfn cxH σ (.func (.func 155) #[] #[]) l K = C cxH 155 l σ K := Wfn_plain fn_155 rfl un_155
theorem call_191 {σ : St} {l : List Value} {K : Value → St → Prop} : Wfn cxH σ (.func (.func 191) #[] #[]) l K = C cxH 191 l σ K := Wfn_plain fn_191 rfl un_191
theorem call_192 {σ : St} {l : List Value} {K : Value → St → Prop} : Wfn cxH σ (.func (.func 192) #[] #[]) l K = C cxH 192 l σ K := Wfn_plain fn_192 rfl un_192
theorem call_193 {σ : St} {l : List Value} {K : Value → St → Prop} : Wfn cxH σ (.func (.func 193) #[] #[]) l K = C cxH 193 l σ K := Wfn_plain fn_193 rfl un_193
theorem call_194 {σ : St} {l : List Value} {K : Value → St → Prop} : Wfn cxH σ (.func (.func 194) #[] #[]) l K = C cxH 194 l σ K := Wfn_plain fn_194 rfl un_194
theorem call_195 {σ : St} {l : List Value} {K : Value → St → Prop} : Wfn cxH σ (.func (.func 195) #[] #[]) l K = C cxH 195 l σ K := Wfn_plain fn_195 rfl un_195
theorem call_196 {σ : St} {l : List Value} {K : Value → St → Prop} : Wfn cxH σ (.func (.func 196) #[] #[]) l K = C cxH 196 l σ K := Wfn_plain fn_196 rfl un_196
theorem call_197 {σ : St} {l : List Value} {K : Value → St → Prop} : Wfn cxH σ (.func (.func 197) #[] #[]) l K = C cxH 197 l σ K := Wfn_plain fn_197 rfl un_197
theorem call_198 {σ : St} {l : List Value} {K : Value → St → Prop} : Wfn cxH σ (.func (.func 198) #[] #[]) l K = C cxH 198 l σ K := Wfn_plain fn_198 rfl un_198
theorem call_199 {σ : St} {l : List Value} {K : Value → St → Prop} : Wfn cxH σ (.func (.func 199) #[] #[]) l K = C cxH 199 l σ K := Wfn_plain fn_199 rfl un_199
theorem call_200 {σ : St} {l : List Value} {K : Value → St → Prop} : Wfn cxH σ (.func (.func 200) #[] #[]) l K = C cxH 200 l σ K := Wfn_plain fn_200 rfl un_200
theorem call_236 {σ : St} {l : List Value} {K : Value → St → Prop} : Wfn cxH σ (.func (.func 236) #[] #[]) l K = C cxH 236 l σ K := Wfn_plain fn_236 rfl un_236
theorem call_237 {σ : St} {l : List Value} {K : Value → St → Prop} : Wfn cxH σ (.func (.func 237) #[] #[]) l K = C cxH 237 l σ K := Wfn_plain fn_237 rfl un_237
theorem call_238 {σ : St} {l : List Value} {K : Value → St → Prop} : Wfn cxH σ (.func (.func 238) #[] #[]) l K = C cxH 238 l σ K := Wfn_plain fn_238 rfl un_238
theorem call_239 {σ : St} {l : List Value} {K : Value → St → Prop} : Wfn cxH σ (.func (.func 239) #[] #[]) l K = C cxH 239 l σ K := Wfn_plain fn_239 rfl un_239
theorem call_240 {σ : St} {l : List Value} {K : Value → St → Prop} : Wfn cxH σ (.func (.func 240) #[] #[]) l K = C cxH 240 l σ K := Wfn_plain fn_240 rfl un_240
theorem call_241 {σ : St} {l : List Value} {K : Value → St → Prop} : Wfn cxH σ (.func (.func 241) #[] #[]) l K = C cxH 241 l σ K := Wfn_plain fn_241 rfl un_241
theorem call_242 {σ : St} {l : List Value} {K : Value → St → Prop} : Wfn cxH σ (.func (.func 242) #[] #[]) l K = C cxH 242 l σ K := Wfn_plain fn_242 rfl un_242
theorem call_243 {σ : St} {l : List Value} {K : Value → St → Prop} : Wfn cxH σ (.func (.func 243) #[] #[]) l K = C cxH 243 l σ K := Wfn_plain fn_243 rfl un_243
theorem call_244 {σ : St} {l : List Value} {K : Value → St → Prop} : Wfn cxH σ (.func (.func 244) #[] #[]) l K = C cxH 244 l σ K := Wfn_plain fn_244 rfl un_244
theorem call_286 {σ : St} {l : List Value} {K : Value → St → Prop} : Wfn cxH σ (.func (.func 286) #[] #[]) l K = C cxH 286 l σ K := Wfn_plain fn_286 rfl un_286
attribute [go_sem ↓] call_3 call_4 call_5 call_7 call_8 call_9 call_10 call_11 call_12 call_13 call_14 call_15 call_16 call_17 call_18 call_19 call_23 call_25 call_27 call_28 call_29 call_32 call_33 call_34 call_35 call_36 call_37 call_38 call_39 call_52 call_53 call_58 call_59 call_60 call_61 call_62 call_63 call_64 call_67 call_68 call_69 call_70 call_91 call_92 call_94 call_96 call_97 call_98 call_99 call_100 call_101 call_102 call_103 call_104 call_105 call_106 call_107 call_108 call_109 call_110 call_139 call_142 call_143 call_144 call_145 call_146 call_147 call_148 call_149 call_150 call_151 call_152 call_153 call_154 call_155 call_191 call_192 call_193 call_194 call_195 call_196 call_197 call_198 call_199 call_200 call_236 call_237 call_238 call_239 call_240 call_241 call_242 call_243 call_244 call_286
theorem sideX {p : Prop} (h : p := by first | assumption | omega | (simp only [add_next, set_next, fresh_next, low_next, lw_next, add_low, set_low, lw_low, fresh_low] <;> omega)) : p := h
theorem sideD {p : Prop} (h : p := by first | assumption | omega | (simp only [add_next, set_next, fresh_next, low_next, lw_next, add_low, set_low, lw_low, fresh_low] <;> omega) | (refine @id (drawAll _ _ _ = true) ?_; kernel_rfl) | fail) : p := h
end
end Go.Proofs.YtfdflggfffajaaaGreatDoor
