/- EnumerateParts returns true for every input, and every argument reads behind the call as it read before. The conditions are those of its row: the listed package-level variables hold what the text of the program lays (tied by the card), the outside is calm and its clocks may move on, and each slice and string lies within the reach of the form. -/
import Derived.Test.YtfdflggfffajaaaGreatDoorTables
import Derived.Test.YtfdflggfffajaaaGreatDoorLv5
import Derived.Test.YtfdflggfffajaaaGreatDoorFactsB
import Derived.Test.YtfdflggfffajaaaGreatDoorListG
set_option linter.unusedVariables false
set_option linter.unusedSimpArgs false
set_option linter.unusedSectionVars false
namespace Go.Proofs.YtfdflggfffajaaaGreatDoor
open Go Go.Proofs Go.ChangeShapes Go.WideShapes Go.ChangeAt Go.RowKit Go.Clock
open Go.Sym (objAt startSt idEnv okL RdN okL_some heap_some)
set_option maxRecDepth 100000
noncomputable section
theorem knownH_ok : Sym.AllIx (Sym.KnowsAll Tryz.prog rowsTab) knownH 1 0 := .none .leaf (.none .leaf (.some .leaf ⟨knows279, trivial⟩ .leaf))
theorem cxH_ok : Sym.CtxOk cxH := ⟨Sym.tys_ok tyTab_eq, Sym.fns_ok fnTab_eq fnTab_ok, mixed, Sym.known_ok knownH_ok⟩
theorem aw_start {W : World} {N M : Nat} (h : 3 < N) : Aw (startSt W N M rs0) := by
  have e : (startSt W N M rs0).mem = (((Sym.memTo W W.heap.size).set 1 (some (.ref 0))).set 2 (some (.ref 1))).set 3 (some (.ref 2)) := rfl
  refine ⟨h, ?_, ?_, ?_⟩ <;> rw [e] <;> simp [Sym.Tr.get_set]
theorem globs : Tryz.prog.globals.size = 8 := by kernel_rfl
theorem contract (H : Type) (enc : TypeId × Value → H) (W : World) (args : Array Value) (ds gs : List (DataW H)) (before : List MemPlace)
    (hval : ∀ (j : Nat) t v, Tryz.f3.params[j]? = some t → args[j]? = some v → Value.okWide Tryz.prog W .any 0 t v)
    (hW : DataW.Whole enc Tryz.prog Tryz.f3.params.toList Rows.enumeratePartsSpec.vars false W args.toList ds gs before)
    (hwt : (DataW.weightsEach Tryz.prog (Tryz.f3.params.toList ++ Rows.enumeratePartsSpec.plain.varTypes Tryz.prog) (ds ++ gs)).all (· ≤ reachBytes) = true)
    (hL : laidMetH Tryz.prog Rows.enumeratePartsRow.laid W) :
    Calls Tryz.prog 3 args W fun e W' => ∃ v, e = .returned v ∧ Rows.enumeratePartsSpec.post enc Tryz.prog Tryz.f3 false true false false W args v { W' with os := W.os } ∧ Later W.os W'.os := by
  have hW' := hW
  obtain ⟨p, q, hA0, hV, rfl, hfz, hnd⟩ := hW
  have hA : DataW.TrodAll enc Tryz.prog W 0 (fun _ => true) true Tryz.f3.params.toList args.toList ds p := hA0
  obtain ⟨rfl, rfl⟩ := trodVars_none hV
  have hwt2 : (DataW.weightsEach Tryz.prog (Tryz.f3.params.toList ++ []) (ds ++ [])).all (· ≤ reachBytes) = true := hwt
  rw [List.append_nil, List.append_nil, Tryz.params3] at hwt2
  rw [Tryz.params3] at hA hval
  obtain ⟨v0, vs0, d0, ds0, p0, q0, hargs, rfl, rfl, h0, r0⟩ := trodAll_cons hA
  obtain ⟨v1, vs1, d1, ds1, p1, q1, rfl, rfl, rfl, h1, r1⟩ := trodAll_cons r0
  obtain ⟨v2, vs2, d2, ds2, p2, q2, rfl, rfl, rfl, h2, r2⟩ := trodAll_cons r1
  obtain ⟨v3, vs3, d3, ds3, p3, q3, rfl, rfl, rfl, h3, r3⟩ := trodAll_cons r2
  obtain ⟨rfl, rfl, rfl⟩ := trodAll_nil r3
  obtain rfl : args = #[v0, v1, v2, v3] := by cases args; simp_all
  have hweights : ∀ y ∈ DataW.weightsEach Tryz.prog [3, 26, 29, 3] [d0, d1, d2, d3], y ≤ reachBytes := fun y hy => of_decide_eq_true (List.all_eq_true.1 hwt2 y hy)
  obtain ⟨n, rfl, rfl, rfl, wn⟩ := open_int Tryz.underlying3 (hval 0 3 v0 rfl rfl) h0
  obtain ⟨a, rfl, rfl, rfl, wa⟩ := open_int Tryz.underlying3 (hval 3 3 v3 rfl rfl) h3
  have k1 := hval 1 26 v1 rfl rfl
  unfold Value.okWide at k1
  rw [Tryz.underlying26] at k1
  obtain ⟨⟨cs1⟩, rfl, -, -⟩ := k1
  have k2 := hval 2 29 v2 rfl rfl
  unfold Value.okWide at k2
  rw [Tryz.underlying29] at k2
  obtain ⟨⟨cs2⟩, rfl, -, -⟩ := k2
  obtain ⟨N0, M0, hheap⟩ := heap_some W
  obtain ⟨N1, M1, hnames⟩ := okL_some [.int .i64 n, .agg ⟨cs1⟩, .agg ⟨cs2⟩, .int .i64 a]
  obtain ⟨N, hN⟩ : ∃ N, N0 ≤ N ∧ N1 ≤ N ∧ W.heap.size ≤ N ∧ 8 ≤ N := ⟨max (max N0 N1) (max W.heap.size 8), by omega, by omega, by omega, by omega⟩
  obtain ⟨M, hM⟩ : ∃ M, M0 ≤ M ∧ M1 ≤ M := ⟨max M0 M1, by omega, by omega⟩
  have hk : ∀ i o, objAt W i = some o → ∀ x ∈ o.cells, Sym.ok (idEnv N M) x := fun i o ho x hx => Sym.ok_ext (Sym.idEnv_ext hN.1 hM.1) x (hheap i o ho x hx)
  have hok : okL (idEnv N M) [.int .i64 n, .agg ⟨cs1⟩, .agg ⟨cs2⟩, .int .i64 a] := Sym.okL_ext (Sym.idEnv_ext hN.2.1 hM.2) _ hnames
  have hR : Ready W N M := ⟨tables hL, hk⟩
  have ok1 : okL (idEnv N M) cs1 ∧ okL (idEnv N M) cs2 := by
    simp only [Sym.okL, Sym.ok, Sym.okA] at hok
    exact ⟨hok.2.1, hok.2.2.1⟩
  have R1 : RdN enc Tryz.prog W N M 26 cs1 := by
    obtain ⟨fuel, hf⟩ := h1
    exact ⟨⟨fuel, _, hf, fun y hy => hweights y (Sym.weightsEach_mem 1 (t := 26) (d := d1) rfl rfl hy)⟩, ok1.1⟩
  have R2 : RdN enc Tryz.prog W N M 29 cs2 := by
    obtain ⟨fuel, hf⟩ := h2
    exact ⟨⟨fuel, _, hf, fun y hy => hweights y (Sym.weightsEach_mem 2 (t := 29) (d := d2) rfl rfl hy)⟩, ok1.2⟩
  rw [← P_eq] at R1 R2
  obtain ⟨w0, w1, w2, w3, pr, rfl, hpr⟩ := rd_prices hR R1
  obtain ⟨L, hP, hL1, hl⟩ := rd_pairing hR R2
  have ha : inI a := by
    have := bounds_i64 wa
    unfold inI
    omega
  have key := Sym.start_run (rs := rs0) hR.r cxH_ok (f := 3) hN.2.2.1 (by rw [P_eq, globs]; exact hN.2.2.2) hk hok (enumerateParts_ok hpr hP hL1 hl ha (aw_start (by have := hN.2.2.2; omega)))
  rw [P_eq] at key
  refine key.mono fun e W' ⟨he, hg⟩ => ?_
  subst he
  have hbelow : Below W.heap.size W W' := ⟨hg.os, hg.tape, hg.output, hg.size, hg.heap⟩
  have eW : { W' with os := W.os } = W' := by rw [← hg.os]
  have hlt := hW'.lt
  rw [eW]
  refine ⟨_, rfl, ⟨_, _, _, [], _, [], hW', trodAll_mk1 (shut_bool Tryz.underlying4 _), trodAll_cons_mk (shut_int Tryz.underlying3 wn) (trodAll_cons_mk (Below.trod laidOut (by kernel_rfl) (of_decide_eq_true (by kernel_rfl)) h1 hbelow (fun x hx => hlt x (by simp [hx])))
    (trodAll_cons_mk (Below.trod laidOut (by kernel_rfl) (of_decide_eq_true (by kernel_rfl)) h2 hbelow (fun x hx => hlt x (by simp [hx]))) (trodAll_cons_mk (shut_int Tryz.underlying3 wa) trodAll_mk0))), rfl, hbelow.frame _, fun h => by cases h⟩, ?_⟩
  rw [hg.os]
  exact Later.refl _
theorem lifted (os : Os) (started : os.Started) (H : Type) (enc : TypeId × Value → H) (F : Stop.Interp) :
    ReturnsInHanded { calm := true } Tryz.checked os 3 .any (fun w args => (Rows.enumeratePartsSpec.pre enc Tryz.prog Tryz.f3 [] false w args ∧ laidMetH Tryz.prog Rows.enumeratePartsRow.laid w) ∧ sizedMet enc Tryz.prog Tryz.f3 (OpenSpec.ofChange Rows.enumeratePartsSpec) false w args)
      ((OpenSpec.ofChange Rows.enumeratePartsSpec).postWith enc Tryz.prog Tryz.f3 F (outsideKept [.timePasses]) false true false) := by
  refine returns_of_change (C := Tryz.checked) (X := fun w _ => laidMetH Tryz.prog Rows.enumeratePartsRow.laid w) (fun _ _ _ hh h => h.of_heap hh) own started (by kernel_rfl) Tryz.func3
    (witness_at (enc := enc) (C := Tryz.checked) (X := fun w _ => laidMetH Tryz.prog Rows.enumeratePartsRow.laid w) (World.laidAll Tryz.prog os Rows.enumeratePartsRow.laid) #[.int .i64 0, .agg #[.slice none 0 0, .slice none 0 0, .slice none 0 0, .slice none 0 0, .bool false], .agg #[.string ByteArray.empty, .slice none 0 0], .int .i64 0] 8 (World.laidAll_os _ _ _)
      (World.shaped_of_ZipB (by kernel_rfl) (by kernel_rfl)) (by kernel_rfl) (by kernel_rfl) (by kernel_rfl)
      (by rw [MakeChecks.laidMetH_plain _ _ _ (by kernel_rfl)]; exact laidMet_laidAll _ (by kernel_rfl) (by kernel_rfl))) ?_
  intro W base args ds gs before hval hW _ hwt hL _
  exact contract H enc W args ds gs before hval hW hwt hL
theorem enumerateParts_said : Rows.EnumeratePartsSaid :=
  holds_of_wide_time 3 Tryz.f3 rfl rfl rfl rfl rfl rfl rfl ⟨rfl, rfl, rfl, rfl, rfl⟩ rfl rfl rfl rfl rfl named3 Tryz.func3 closed isInst isWrap (fun os started H enc _ F => lifted os started H enc F)
theorem enumerateParts_card : Rows.EnumeratePartsCardSaid :=
  Claim7.holds_tied_plain_at .later [] _ _ (true, "778260d534f2854963ae1551ee28e37a82b7f94fa38022cc494409c2acfb47aa") false enumerateParts_said (fun _ h => by cases h) byText (fun _ h => by cases h) enumerateParts_row_tie rfl ⟨rfl, rfl⟩ mainIs rfl lookPlain goesNot
#print axioms enumerateParts_card
end
end Go.Proofs.YtfdflggfffajaaaGreatDoor
