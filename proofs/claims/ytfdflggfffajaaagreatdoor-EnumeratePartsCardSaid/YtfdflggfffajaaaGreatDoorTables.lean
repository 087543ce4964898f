/- The listed tables as they lie in the world. -/
import Derived.Test.YtfdflggfffajaaaGreatDoorCards
import Derived.Test.YtfdflggfffajaaaGreatDoorTie
import Derived.Test.YtfdflggfffajaaaGreatDoorArgs
import Derived.Clock
import Derived.Lay
import Derived.OpenShut
import Derived.Carry
import Derived.LaidMore
set_option linter.unusedVariables false
set_option linter.unusedSimpArgs false
set_option linter.unusedSectionVars false
namespace Go.Proofs.YtfdflggfffajaaaGreatDoor
open Go Go.Proofs Go.ChangeShapes Go.WideShapes Go.ChangeAt Go.RowKit Go.Clock
open Go.Sym (objAt startSt idEnv okL RdN okL_some heap_some)
set_option maxRecDepth 100000
noncomputable section
theorem own : ownKnob Tryz.prog.godebug = none := by kernel_rfl
theorem laidOut : laidOutB Tryz.prog = true := by kernel_rfl
section
variable {H : Type} {enc : TypeId × Value → H} {P : Program} {w : World} {base : Nat} {spare : Nat → Bool} {held : Bool} {fuel : Nat}
theorem tab_strs {t e : TypeId} {n : Nat} {cs : List Value} (ht : P.underlying t = some (.array n e)) (he : P.underlying e = some .string) (hc : P.cellsOf e = 1) (hct : P.cellsOf t = n) {Bs : List (List UInt8)} {p : List MemPlace}
    (h : DataW.trod enc P w base spare held fuel t cs = some (.agg (Bs.map fun b => .lit (.string b)), p)) : cs = Bs.map fun b => Value.string ⟨b.toArray⟩ := by
  obtain ⟨xs, m, _, ex, hlen, hxs, hel⟩ := DataW.trod_array ht h
  rw [hct] at hlen
  have e1 : Bs.map (fun b => DataW.lit (.string b)) = xs.map (·.1) := DataW.agg.inj (Prod.mk.inj ex).1
  have hB : Bs.length = n := by have := congrArg List.length e1; simpa [hxs] using this
  apply List.ext_getElem?
  intro i
  by_cases hi : i < n
  · have k := hel i hi
    rw [hc, Nat.mul_one] at k
    have hi2 : i < xs.length := by omega
    rw [List.getElem?_eq_getElem hi2] at k
    obtain ⟨s, h1, h2, _⟩ := DataW.trod_string he k
    have h3 : cs[i]? = some (.string s) := by
      have := congrArg (·[0]?) h1
      simpa using this
    obtain ⟨b, hb⟩ : ∃ b, Bs[i]? = some b := ⟨_, List.getElem?_eq_getElem (by omega)⟩
    have h4 := congrArg (·[i]?) e1
    simp only [List.getElem?_map, hb, Option.map_some, List.getElem?_eq_getElem hi2] at h4
    injection h4 with h4
    rw [h2] at h4
    injection h4 with h4
    injection h4 with h4
    subst h4
    rw [h3, List.getElem?_map, hb]
    simp
  · rw [List.getElem?_eq_none (by omega), List.getElem?_eq_none (by rw [List.length_map]; omega)]
end
theorem objAt_var {W : World} {name : String} {g : Nat} {cs : Array Value} (hg : Tryz.prog.globalNamed name = some g) (h : W.var? Tryz.prog name = some cs) : objAt W g = some (.ro cs.toList) := by
  unfold World.var? at h
  rw [hg] at h
  simp only [Option.bind_some] at h
  unfold objAt
  split at h
  · rename_i c t fr hb
    injection h with h
    subst h
    rw [hb]
  · cases h
theorem tables {W : World} (hL : laidMetH Tryz.prog Rows.enumeratePartsRow.laid W) : ∀ p ∈ rs0, ∃ o, cxH.rows.get p.2 = some o ∧ objAt W p.1 = some o := by
  rw [MakeChecks.laidMetH_plain _ _ _ (by kernel_rfl)] at hL
  obtain ⟨ps, hv, _, _⟩ := hL
  change DataW.LaidVars Tryz.prog W [("pairing/grammar.reserved", Rows.laid_pairing_grammar_reserved), ("pairing/types.dutyNames", Rows.laid_pairing_types_dutyNames), ("pairing/types.restNames", Rows.laid_pairing_types_restNames), ("pairing/types.pairingNames", Rows.laid_pairing_types_pairingNames), ("pairing/types.pairingTypes", Rows.laid_pairing_types_pairingTypes)] ps at hv
  obtain ⟨_, _, _, _, _, _, _, _, _, _, hv1, _⟩ := hv
  obtain ⟨g1, t1, cs1, f1, p1, q1, hg1, ht1, hx1, hd1, hv2, _⟩ := hv1
  obtain ⟨g2, t2, cs2, f2, p2, q2, hg2, ht2, hx2, hd2, hv3, _⟩ := hv2
  obtain ⟨g3, t3, cs3, f3, p3, q3, hg3, ht3, hx3, hd3, _, _⟩ := hv3
  obtain rfl := Option.some.inj ((show Tryz.prog.globalNamed "pairing/types.dutyNames" = some 1 by kernel_rfl).symm.trans hg1)
  obtain rfl := Option.some.inj ((show Tryz.prog.globalNamed "pairing/types.restNames" = some 2 by kernel_rfl).symm.trans hg2)
  obtain rfl := Option.some.inj ((show Tryz.prog.globalNamed "pairing/types.pairingNames" = some 3 by kernel_rfl).symm.trans hg3)
  obtain rfl := Option.some.inj ((show (Tryz.prog.globals[1]?).map (·.type) = some 363 by kernel_rfl).symm.trans ht1)
  obtain rfl := Option.some.inj ((show (Tryz.prog.globals[2]?).map (·.type) = some 364 by kernel_rfl).symm.trans ht2)
  obtain rfl := Option.some.inj ((show (Tryz.prog.globals[3]?).map (·.type) = some 365 by kernel_rfl).symm.trans ht3)
  have c9 : Tryz.prog.cellsOf 9 = 1 := by kernel_rfl
  have c1 : Tryz.prog.cellsOf 363 = 11 := by kernel_rfl
  have c2 : Tryz.prog.cellsOf 364 = 3 := by kernel_rfl
  have c3 : Tryz.prog.cellsOf 365 = 7 := by kernel_rfl
  have r1 := tab_strs Tryz.underlying363 Tryz.underlying9 c9 c1 (Bs := [[108, 101, 103, 115], [104, 101, 97, 100, 115], [116, 121, 112, 101, 115], [98, 108, 111, 99, 107], [115, 112, 97, 110], [110, 105, 103, 104, 116], [108, 111, 110, 103, 101, 115, 116], [115, 104, 111, 114, 116, 101, 115, 116], [115, 104, 105, 102, 116], [115, 116, 97, 114, 116], [101, 110, 100]]) hd1
  have r2 := tab_strs Tryz.underlying364 Tryz.underlying9 c9 c2 (Bs := [[114, 101, 115, 116], [110, 105, 103, 104, 116, 115], [104, 111, 109, 101]]) hd2
  have r3 := tab_strs Tryz.underlying365 Tryz.underlying9 c9 c3 (Bs := [[100, 117, 116, 105, 101, 115], [108, 101, 103, 115], [104, 101, 97, 100, 115], [100, 97, 121, 115], [98, 108, 111, 99, 107], [115, 112, 97, 110], [99, 114, 101, 100, 105, 116]]) hd3
  have o1 := objAt_var hg1 hx1
  have o2 := objAt_var hg2 hx2
  have o3 := objAt_var hg3 hx3
  rw [r1] at o1
  rw [r2] at o2
  rw [r3] at o3
  intro p hp
  simp only [rs0, List.mem_cons, List.not_mem_nil, or_false] at hp
  rcases hp with rfl | rfl | rfl
  · exact ⟨row0, by kernel_rfl, o1⟩
  · exact ⟨row1, by kernel_rfl, o2⟩
  · exact ⟨row2, by kernel_rfl, o3⟩
end
end Go.Proofs.YtfdflggfffajaaaGreatDoor
