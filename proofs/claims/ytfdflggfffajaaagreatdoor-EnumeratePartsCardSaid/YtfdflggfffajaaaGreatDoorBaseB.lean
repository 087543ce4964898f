/- Each operation of the executor agrees with the model. -/
import Derived.Test.YtfdflggfffajaaaGreatDoorBaseA
import Derived.Orders
set_option linter.unusedVariables false
set_option linter.unusedSimpArgs false
set_option linter.unusedSectionVars false
namespace Go.Sym
open Go
noncomputable section
def Gives (cx : Ctx) (D : Nat → Prop) (σ : St) (η : Env) (w : World) (m : Result Value) (v : Value) (σ' : St) (W : Nat → Prop) : Prop :=
  ∃ η' w', m = .ok (ren η' v) w' ∧ ok η' v ∧ WF (vw cx σ') ∧ Kept (vw cx σ) η w (vw cx σ') η' w' W ∧ Den cx.P (fun j => D j ∨ σ.next ≤ j) (vw cx σ') η' w'
theorem Den.widen {P : Program} {D : Nat → Prop} {v : Vw} {η : Env} {w : World} (h : Den P D v η w) : Den P (fun j => D j ∨ v.next ≤ j) v η w :=
  { h with
    obj := fun i o b hD hi e => by
      rcases hD with hD | hD
      · exact h.obj i o b hD hi e
      · rw [h.dom i hD] at e
        cases e
    inj := fun i j o p b hi hj e1 e2 e3 e4 => by
      rcases hi with hi | hi
      · rcases hj with hj | hj
        · exact h.inj i j o p b hi hj e1 e2 e3 e4
        · rw [h.dom j hj] at e4
          cases e4
      · rw [h.dom i hi] at e3
        cases e3 }
theorem Gives.same {cx : Ctx} {D : Nat → Prop} {σ : St} {η : Env} {w : World} {m : Result Value} {v : Value} (hwf : WF (vw cx σ)) (hd : Den cx.P D (vw cx σ) η w) (hm : m = .ok (ren η v) w) (hv : ok η v) :
    Gives cx D σ η w m v σ (fun _ => False) :=
  ⟨η, w, hm, hv, hwf, Kept.refl _ _ _, hd.widen⟩
theorem Kept.undrew {v v' : Vw} {η η' : Env} {w w' : World} {W : Nat → Prop} (h : Kept v η w.drew v' η' w' W) : Kept v η w v' η' w' W :=
  ⟨h.ext, h.only, h.onlyC, h.next, h.nextC, h.low, h.wlow, h.live, h.os, h.tape, h.output, h.size, h.frame, h.same, h.sameC, h.orig⟩
section
variable {cx : Ctx} (hT : TysOk cx) {D : Nat → Prop} {σ : St} {η : Env} {w : World} (hwf : WF (vw cx σ)) (hd : Den cx.P D (vw cx σ) η w)
include hT hwf hd
theorem opAlloc_sound {e : TypeId} {v : Value} {σ' : St} (h : opAlloc cx σ e = some (.val v σ')) :
    Gives cx D σ η w ((Instr.alloc e true (.tuple #[])).run cx.P w) v σ' (fun _ => False) := by
  simp only [opAlloc, Option.bind_eq_bind, Option.bind_eq_some_iff] at h
  obtain ⟨i, hi, z, hz, ⟨σ1, ad⟩, hr, h⟩ := h
  injection h with h
  injection h with h1 h2
  subst h1 h2
  have hpz : plain z = true := (hT e i hi).zero z hz
  obtain ⟨η', w', h1, h2, h3, h4, h5⟩ := newRow_sound hwf hd (fun x hx => plain_ok η x (plain_cells hpz x (by simpa using hx))) hr
  have e1 : (z.cells.toList.map (ren η)).toArray = z.cells := by
    have := ren_cells_plain (η := η) hpz
    apply Array.ext'
    have := congrArg Array.toList this
    simpa using this
  rw [e1] at h1
  refine ⟨η', w', ?_, ok_pointer.2 h2, h3, h4, h5⟩
  simp [Instr.alloc, ty_zero hT hi hz, newVar, h1, ren]
omit hT in
theorem opBox_sound {e : TypeId} {x v : Value} {σ' : St} (hx : ok η x) (h : opBox σ e x = some (.val v σ')) :
    Gives cx D σ η w ((Instr.box e (ren η x)).run cx.P w) v σ' (fun _ => False) := by
  simp only [opBox, Option.bind_eq_bind, Option.bind_eq_some_iff] at h
  obtain ⟨⟨σ1, ad⟩, hr, h⟩ := h
  injection h with h
  injection h with h1 h2
  subst h1 h2
  obtain ⟨η', w', h1, h2, h3, h4, h5⟩ := newRow_sound hwf hd (ok_cells hx) hr
  have e1 : (x.cells.toList.map (ren η)).toArray = (ren η x).cells := by
    rw [ren_cells]
    apply Array.ext'
    simp
  rw [e1] at h1
  refine ⟨η', w', ?_, ok_pointer.2 h2, h3, h4, h5⟩
  simp [Instr.box, newVar, h1, ren]
theorem opLoad_sound {t : TypeId} {x v : Value} {σ' : St} (hx : ok η x) (hD : ∀ i ∈ blockOf x, D i) (h : opLoad cx σ t x = some (.val v σ')) :
    Gives cx D σ η w ((Instr.loadAt t (ren η x)).run cx.P w) v σ' (fun _ => False) := by
  simp only [opLoad, Option.bind_eq_bind, Option.bind_eq_some_iff] at h
  obtain ⟨a, ha, u, hu, h⟩ := h
  injection h with h
  injection h with h1 h2
  subst h1 h2
  have hx' := addrOf_inv ha
  subst hx'
  have hblk := ok_pointer.1 hx
  have hDa : D a.block := hD a.block (by simp [blockOf])
  simp only [loadVar, Option.bind_eq_bind, Option.bind_eq_some_iff] at hu
  obtain ⟨i, hi, hu⟩ := hu
  refine Gives.same hwf hd ?_ ?_ <;> cases hag : isAggD i.desc
  · simp only [hag, Bool.false_eq_true, if_false, Option.bind_eq_some_iff] at hu
    obtain ⟨cs, hcs, hu⟩ := hu
    obtain ⟨h1, h2, h3, h4⟩ := loadCells_sound hd hblk hDa hcs
    split at hu
    · injection hu with hu
      subst hu
      have h5 := h3 0 _ rfl
      have h6 : (renA η a).add 0 = renA η a := rfl
      rw [h6] at h5
      simp [Instr.loadAt, ren, Instr.sureAddr, Go.loadVar, ty_agg hT hi, hag, h5]
    · cases hu
  · simp only [hag, if_true, Option.bind_eq_some_iff] at hu
    obtain ⟨cs, hcs, hu⟩ := hu
    injection hu with hu
    subst hu
    obtain ⟨h1, h2, h3, h4⟩ := loadCells_sound hd hblk hDa hcs
    simp [Instr.loadAt, ren, Instr.sureAddr, Go.loadVar, ty_agg hT hi, hag, ty_size hT hi, h4, renArr, renL_eq]
  · simp only [hag, Bool.false_eq_true, if_false, Option.bind_eq_some_iff] at hu
    obtain ⟨cs, hcs, hu⟩ := hu
    obtain ⟨h1, h2, h3, h4⟩ := loadCells_sound hd hblk hDa hcs
    split at hu
    · injection hu with hu
      subst hu
      exact h2 _ (by simp)
    · cases hu
  · simp only [hag, if_true, Option.bind_eq_some_iff] at hu
    obtain ⟨cs, hcs, hu⟩ := hu
    injection hu with hu
    subst hu
    obtain ⟨h1, h2, h3, h4⟩ := loadCells_sound hd hblk hDa hcs
    simpa [ok, okA, okL_iff] using h2
theorem opStore_sound {t : TypeId} {x y v : Value} {σ' : St} (hx : ok η x) (hy : ok η y) (hD : ∀ i ∈ blockOf x, D i) (h : opStore cx σ t x y = some (.val v σ')) :
    ∃ w', (Instr.storeAt t (ren η x) (ren η y)).run cx.P w = .ok () w' ∧ v = undef ∧ WF (vw cx σ') ∧ Kept (vw cx σ) η w (vw cx σ') η w' (· ∈ blockOf x) ∧ Den cx.P (fun j => D j ∨ σ.next ≤ j) (vw cx σ') η w' := by
  simp only [opStore, Option.bind_eq_bind, Option.bind_eq_some_iff] at h
  obtain ⟨a, ha, σ1, hs, h⟩ := h
  injection h with h
  injection h with h1 h2
  subst h1 h2
  have hx' := addrOf_inv ha
  subst hx'
  have hblk := ok_pointer.1 hx
  have hDa : D a.block := hD a.block (by simp [blockOf])
  simp only [storeVar, Option.bind_eq_bind, Option.bind_eq_some_iff] at hs
  obtain ⟨i, hi, _, hg, hs⟩ := hs
  have hg := guard'_some hg
  obtain ⟨w', h1, h2, h3, h4, h5, h6⟩ := storeCells_sound hwf hd hblk hDa (ok_cells hy) hs
  have e1 : (ren η y).cells.size = i.size := by
    rw [ren_cells]
    simpa using hg
  have e2 : (ren η y).cells.toList = y.cells.toList.map (ren η) := by
    rw [ren_cells]
    simp
  refine ⟨w', ?_, rfl, h4, ?_, h6⟩
  · have e1' : ¬ (ren η y).cells.size ≠ i.size := fun hne => hne e1
    simp only [Instr.storeAt, ren, Option.map_some, Instr.sureAddr, Sem.run_bind, Sem.run_pure, Result.andThen_ok, Go.storeVar, ty_size hT hi]
    rw [if_neg e1', e2]
    simpa using h1
  · have : (fun j => j ∈ blockOf (Value.pointer (some a))) = (· = a.block) := by
      funext j
      simp [blockOf]
    rw [this]
    exact h5
end
theorem zeros_length (z : List Value) : ∀ n, (zeros z n).length = n * z.length
  | 0 => by simp [zeros]
  | n + 1 => by simp [zeros, zeros_length z n, Nat.succ_mul, Nat.add_comm]
theorem zeros_get (z : List Value) : ∀ n i, i < n * z.length → (zeros z n)[i]? = z[i % z.length]?
  | 0, i, h => by simp at h
  | n + 1, i, h => by
    simp only [zeros, List.getElem?_append]
    split
    · rename_i hlt
      rw [Nat.mod_eq_of_lt hlt]
    · rename_i hge
      rw [Nat.succ_mul] at h
      rw [zeros_get z n (i - z.length) (by omega)]
      congr 1
      have : i = i - z.length + z.length := by omega
      rw [this, Nat.add_mod_right]
      simp
theorem zeros_array (z : Array Value) (n k : Nat) (hk : k = n * z.size) (hz : 0 < z.size) : (Array.range k).map (fun i => z[i % z.size]!) = (zeros z.toList n).toArray := by
  subst hk
  apply Array.ext'
  apply List.ext_getElem?
  intro i
  have hl := zeros_length z.toList n
  simp only [Array.length_toList] at hl
  by_cases hi : i < n * z.size
  · have h1 := zeros_get z.toList n i (by simpa using hi)
    simp only [Array.length_toList] at h1
    have hm : i % z.size < z.size := Nat.mod_lt _ hz
    simp [hi, h1, hm]
  · have h2 : (zeros z.toList n).length ≤ i := by omega
    simp [hi, h2]
theorem zeros_mem (z : List Value) : ∀ n x, x ∈ zeros z n → x ∈ z
  | 0, x, h => by simp [zeros] at h
  | n + 1, x, h => by
    simp only [zeros, List.mem_append] at h
    rcases h with h | h
    · exact h
    · exact zeros_mem z n x h
theorem zeros_ren {η : Env} {z : Value} (hp : plain z = true) (n : Nat) : (zeros z.cells.toList n).map (ren η) = zeros z.cells.toList n := by
  have : ∀ x ∈ zeros z.cells.toList n, ren η x = id x := fun x hx => ren_plain η x (plain_cells hp x (by simpa using zeros_mem _ _ _ hx))
  rw [List.map_congr_left this, List.map_id]
section
variable {cx : Ctx} (hT : TysOk cx) {D : Nat → Prop} {σ : St} {η : Env} {w : World} (hwf : WF (vw cx σ)) (hd : Den cx.P D (vw cx σ) η w)
include hT hwf hd
theorem opMakeSlice_sound {t : TypeId} {l c v : Value} {σ' : St} (h : opMakeSlice cx σ t l c = some (.val v σ')) :
    Gives cx D σ η w ((Instr.makeSlice t (ren η l) (ren η c)).run cx.P w) v σ' (fun _ => False) := by
  simp only [opMakeSlice, Option.bind_eq_bind, Option.bind_eq_some_iff] at h
  obtain ⟨i, hi, h⟩ := h
  split at h
  · rename_i elem hdsc
    simp only [Option.bind_eq_some_iff] at h
    obtain ⟨ei, hei, cn, hc, ln, hl, _, hg, z, hz, _, hg2, ⟨σ1, ad⟩, hr, h⟩ := h
    injection h with h
    injection h with h1 h2
    subst h1 h2
    obtain ⟨hby, hsz⟩ := of_decide_eq_true (guard'_some hg)
    have hzs : z.cells.size = ei.size := by simpa using guard'_some hg2
    have hpz : plain z = true := (hT elem ei hei).zero z hz
    obtain ⟨kc, rfl, hcle⟩ := natOf_inv hc
    obtain ⟨kl, rfl, hlle⟩ := natOf_inv hl
    obtain ⟨η', w', h1, h2, h3, h4, h5⟩ := newRow_sound hwf hd (fun x hx => plain_ok η x (plain_cells hpz x (by simpa using zeros_mem _ _ _ hx))) hr
    rw [zeros_ren hpz] at h1
    refine ⟨η', w', ?_, ?_, h3, h4, h5⟩
    · obtain ⟨f, hf, _, hfb, _⟩ := ty_info hT hei w
      have wl : IntKind.i64.wrap (ln : Int) = ln := by
        simp only [IntKind.wrap, IntKind.bits, IntKind.signed]
        simp
        omega
      have wc : IntKind.i64.wrap (cn : Int) = cn := by
        simp only [IntKind.wrap, IntKind.bits, IntKind.signed]
        simp
        omega
      have hmul : ei.bytes * cn ≤ 1000000 * 1000000 := Nat.mul_le_mul hby hcle
      have hb1 : ¬ ((f.bytes : Int) * (cn : Int) > 2 ^ 48) := by
        rw [hfb]
        have : (ei.bytes : Int) * (cn : Int) = ((ei.bytes * cn : Nat) : Int) := by simp
        omega
      have hrow : cn * ei.size ≠ 0 → (Array.range (cn * ei.size)).map (fun i => z.cells[i % z.cells.size]!) = (zeros z.cells.toList cn).toArray := fun h0 =>
        zeros_array z.cells cn (cn * ei.size) (by rw [hzs]) (by omega)
      simp only [Instr.makeSlice, Sem.run_bind, ty_under hT hi, hdsc, Result.andThen_ok, ren, asInt, asIntOf, Sem.run_pure, hf, wl, wc]
      have c1 : ((decide ((cn : Int) < 0) || decide ((f.bytes : Int) * (cn : Int) > 2 ^ 48)) || decide ((ln : Int) < 0) || decide ((ln : Int) > (cn : Int))) = false := by
        simp only [Bool.or_eq_false_iff, decide_eq_false_iff_not]
        exact ⟨⟨⟨by omega, hb1⟩, by omega⟩, by omega⟩
      simp only [c1]
      simp only [Int.toNat_natCast, ty_size hT hei, Sem.run_bind, Result.andThen_ok, run_askRoom, Option.map_some, Bool.false_eq_true, if_false]
      rw [show renC η' cn = cn by unfold renC capBase; rw [if_pos (by omega)]]
      by_cases h0 : cn * ei.size = 0
      · have hc0 : cn = 0 := by
          rcases Nat.mul_eq_zero.1 h0 with h | h
          · exact h
          · omega
        subst hc0
        have e4 : (Array.range (0 * ei.size)).map (fun i => (#[] : Array Value)[i % (#[] : Array Value).size]!) = (zeros z.cells.toList 0).toArray := by simp [zeros]
        simp only [h0, if_true, Sem.run_bind, Sem.run_pure, Result.andThen_ok]
        rw [← h0]
        simp only [e4, h1, Sem.run_pure, Result.andThen_ok]
      · simp only [h0, if_false, Sem.run_bind, ty_zero hT hei hz, Sem.run_pure, Result.andThen_ok, hrow h0, h1]
    · simp only [ok]
      exact ⟨fun a ha => by injection ha with ha; rw [← ha]; exact h2, .inl (by unfold capBase; omega)⟩
  · cases h
theorem opBuildSlice_sound {t : TypeId} {len : Nat} {parts : List (Nat × Value)} {v : Value} {σ' : St} (hp : ∀ p ∈ parts, ok η p.2) (h : opBuildSlice cx σ t len parts = some (.val v σ')) :
    Gives cx D σ η w ((Instr.buildSlice t len (parts.map fun p => (p.1, ren η p.2)).toArray).run cx.P w) v σ' (fun _ => False) := by
  simp only [opBuildSlice, Option.bind_eq_bind, Option.bind_eq_some_iff] at h
  obtain ⟨i, hi, h⟩ := h
  split at h
  · rename_i elem hdsc
    simp only [Option.bind_eq_some_iff] at h
    obtain ⟨ei, hei, _, hg, z, hz, _, hg2, cells, hfill, ⟨σ1, ad⟩, hr, h⟩ := h
    injection h with h
    injection h with h1 h2
    subst h1 h2
    obtain ⟨hsz, hle⟩ := of_decide_eq_true (guard'_some hg)
    have hzs : z.cells.size = ei.size := by simpa using guard'_some hg2
    have hpz : plain z = true := (hT elem ei hei).zero z hz
    have hzok : ∀ x ∈ (⟨zeros z.cells.toList len⟩ : Array Value), ok η x := fun x hx => plain_ok η x (plain_cells hpz x (by simpa using zeros_mem z.cells.toList len x (by simpa using hx)))
    obtain ⟨hf1, hf2⟩ := fill_sound η _ parts _ cells hp hzok hfill
    have e0 : (⟨zeros z.cells.toList len⟩ : Array Value).map (ren η) = (zeros z.cells.toList len).toArray := by
      apply Array.ext'
      simp [zeros_ren hpz]
    rw [e0] at hf1
    obtain ⟨η', w', h1, h2, h3, h4, h5⟩ := newRow_sound hwf hd (fun x hx => hf2 x (by simpa using hx)) hr
    have hlen : len ≤ 1000000 := by
      have : len * 1 ≤ len * ei.size := Nat.mul_le_mul_left _ hsz
      omega
    refine ⟨η', w', ?_, ?_, h3, h4, h5⟩
    · have hrow : len * ei.size ≠ 0 → (Array.range (len * ei.size)).map (fun i => z.cells[i % z.cells.size]!) = (zeros z.cells.toList len).toArray := fun h0 =>
        zeros_array z.cells len (len * ei.size) (by rw [hzs]) (by omega)
      have hnot : ¬ (len * ei.size > 2 ^ 24) := by omega
      simp only [Instr.buildSlice, Sem.run_bind, ty_under hT hi, hdsc, Result.andThen_ok, ty_size hT hei]
      rw [if_neg hnot]
      have e3 : (cells.toList.map (ren η)).toArray = cells.map (ren η) := by
        apply Array.ext'
        simp
      rw [e3] at h1
      simp only [ren, Option.map_some]
      rw [show renC η' len = len by unfold renC capBase; rw [if_pos (by omega)]]
      by_cases h0 : len * ei.size = 0
      · have hc0 : len = 0 := by
          rcases Nat.mul_eq_zero.1 h0 with h | h
          · exact h
          · omega
        subst hc0
        have e4 : (Array.range (0 * ei.size)).map (fun i => (#[] : Array Value)[i % (#[] : Array Value).size]!) = (zeros z.cells.toList 0).toArray := by simp [zeros]
        simp only [h0, if_true, Sem.run_bind, Sem.run_pure, Result.andThen_ok]
        rw [← h0]
        simp only [e4, hf1, Sem.run_bind, h1, Sem.run_pure, Result.andThen_ok]
      · simp only [h0, if_false, Sem.run_bind, ty_zero hT hei hz, Sem.run_pure, Result.andThen_ok, hrow h0, hf1, h1]
    · simp only [ok]
      exact ⟨fun a ha => by injection ha with ha; rw [← ha]; exact h2, .inl (by unfold capBase; omega)⟩
  · cases h
theorem opSlice_sound {t : TypeId} {x v : Value} {lo hi mx : Option Value} {σ' : St} (hx : ok η x) (h : opSlice cx σ t x lo hi mx = some (.val v σ')) :
    Gives cx D σ η w ((Instr.sliceAt t (ren η x) (lo.map (ren η)) (hi.map (ren η)) (mx.map (ren η))).run cx.P w) v σ' (fun _ => False) := by
  simp only [opSlice, Option.bind_eq_bind, Option.bind_eq_some_iff] at h
  obtain ⟨i, hti, h⟩ := h
  split at h
  · rename_i n elem a hdsc
    simp only [Option.bind_eq_some_iff] at h
    obtain ⟨ei, hei, _, hg, ⟨l, hh, m⟩, hb, h⟩ := h
    injection h with h
    injection h with h1 h2
    subst h1 h2
    have hn := of_decide_eq_true (guard'_some hg)
    obtain ⟨b1, b2, b3, b4⟩ := bounds_sound (η := η) (P := cx.P) (w := w) (isSlice := false) (Nat.le_refl n) hb
    have e : (if mx.isSome then n else n) = n := by split <;> rfl
    rw [e] at b1
    refine Gives.same hwf hd ?_ ?_
    · simp only [Instr.sliceAt, Sem.run_bind, ty_under hT hti, hdsc, Result.andThen_ok, ren, Option.map_some, Instr.sureAddr, Sem.run_pure, b1, ty_size hT hei]
      rw [show renC η (m - l) = m - l by unfold renC; rw [if_pos (by omega)]]
      split <;> simp [renA_add']
    · simp only [ok]
      refine ⟨fun b hb' => ?_, .inl (by omega)⟩
      injection hb' with hb'
      rw [← hb']
      split
      · exact ok_pointer.1 hx
      · rw [add_block]; exact ok_pointer.1 hx
  · rename_i s hdsc
    simp only [Option.bind_eq_some_iff] at h
    obtain ⟨_, hg, ⟨l, hh, m⟩, hb, h⟩ := h
    injection h with h
    injection h with h1 h2
    subst h1 h2
    have hmx : mx = none := by simpa using guard'_some hg
    subst hmx
    obtain ⟨b1, b2, b3, b4⟩ := bounds_sound (η := η) (P := cx.P) (w := w) (isSlice := false) (Nat.le_refl s.size) hb
    simp only [Option.map_none, Option.isSome_none, Bool.false_eq_true, if_false] at b1
    refine Gives.same hwf hd ?_ (by simp [ok])
    simp only [Instr.sliceAt, Instr.slice, Sem.run_bind, ty_under hT hti, hdsc, Result.andThen_ok, ren, Option.map_none, Option.isSome_none, Bool.false_eq_true, if_false, Sem.run_pure, b1]
  · rename_i elem a len cap hdsc
    simp only [Option.bind_eq_some_iff] at h
    obtain ⟨ei, hei, h⟩ := h
    simp only [ok] at hx
    split at h
    · rename_i hcap
      simp only [Option.bind_eq_some_iff] at h
      obtain ⟨⟨l, hh, m⟩, hb, h⟩ := h
      injection h with h
      injection h with h1 h2
      subst h1 h2
      obtain ⟨b1, b2, b3, b4⟩ := bounds_sound (η := η) (P := cx.P) (w := w) (isSlice := true) (Nat.le_refl cap) hb
      have e : (if mx.isSome then cap else cap) = cap := by split <;> rfl
      rw [e] at b1
      refine Gives.same hwf hd ?_ ?_
      · simp only [Instr.sliceAt, Instr.slice, Sem.run_bind, ty_under hT hti, hdsc, Result.andThen_ok, ren, Sem.run_pure]
        rw [show renC η cap = cap by unfold renC; rw [if_pos hcap], show renC η (m - l) = m - l by unfold renC; rw [if_pos (by omega)]]
        simp only [b1, Result.andThen_ok, ty_size hT hei]
        split
        · rfl
        · cases a <;> simp [renA_add']
      · simp only [ok]
        refine ⟨fun b hb' => ?_, .inl (by omega)⟩
        split at hb'
        · exact hx.1 b hb'
        · cases a with
          | none => cases hb'
          | some a' =>
            simp only [Option.map_some, Option.some.injEq] at hb'
            rw [← hb', add_block]
            exact hx.1 a' rfl
    · rename_i hcap
      simp only [Option.bind_eq_some_iff] at h
      obtain ⟨low, hlow, h⟩ := h
      have hcs : (η.cap (cap - capBase)).isSome := hx.2.resolve_left hcap
      obtain ⟨c, hc⟩ := Option.isSome_iff_exists.1 hcs
      have hcc : η.c (cap - capBase) = c := by unfold Env.c; rw [hc]; rfl
      obtain ⟨hlc, hcb⟩ := hd.caps _ _ _ hlow hc
      have hren : renC η cap = c := by unfold renC; rw [if_neg hcap, hcc]
      split at h
      · rename_i y
        simp only [Option.bind_eq_some_iff] at h
        obtain ⟨⟨l, hh, m⟩, hb, h⟩ := h
        injection h with h
        injection h with h1 h2
        subst h1 h2
        obtain ⟨b1, b2, b3, b4⟩ := bounds_sound (η := η) (P := cx.P) (w := w) (isSlice := true) hlc hb
        simp only [Option.isSome_some, if_true] at b1
        refine Gives.same hwf hd ?_ ?_
        · simp only [Instr.sliceAt, Instr.slice, Sem.run_bind, ty_under hT hti, hdsc, Result.andThen_ok, ren, Sem.run_pure, hren]
          rw [show renC η (m - l) = m - l by unfold renC; rw [if_pos (by omega)]]
          simp only [b1, Result.andThen_ok, ty_size hT hei]
          split
          · rfl
          · cases a <;> simp [renA_add']
        · simp only [ok]
          refine ⟨fun b hb' => ?_, .inl (by omega)⟩
          split at hb'
          · exact hx.1 b hb'
          · cases a with
            | none => cases hb'
            | some a' =>
              simp only [Option.map_some, Option.some.injEq] at hb'
              rw [← hb', add_block]
              exact hx.1 a' rfl
      · simp only [Option.bind_eq_some_iff] at h
        obtain ⟨_, hg, ⟨l, hh, m⟩, hb, h⟩ := h
        have hll := of_decide_eq_true (guard'_some hg)
        obtain ⟨b1, b2, b3, b4⟩ := bounds_sound (η := η) (P := cx.P) (w := w) (isSlice := true) (Nat.le_refl low) hb
        have b4 := b4 hll
        have b5 : (Instr.sliceBounds true len c (lo.map (ren η)) (hi.map (ren η)) none).run cx.P w = .ok (l, hh, c) w := bounds_wide hb hlc
        split at h
        · rename_i hl0
          injection h with h
          injection h with h1 h2
          subst h1 h2
          subst hl0
          refine Gives.same hwf hd ?_ ?_
          · simp only [Instr.sliceAt, Instr.slice, Sem.run_bind, ty_under hT hti, hdsc, Result.andThen_ok, ren, Sem.run_pure, hren, Option.map_none, b5, ty_size hT hei]
            have e : (if c = 0 then Option.map (renA η) a else Option.map (fun x => x.add (0 * ei.size)) (Option.map (renA η) a)) = Option.map (renA η) a := by
              split
              · rfl
              · cases a with
                | none => rfl
                | some a' => simp [Addr.add]
            simp only [e, Nat.sub_zero]
          · simp only [ok]
            exact hx
        · rename_i hl0
          split at h
          · rename_i hlt
            injection h with h
            injection h with h1 h2
            subst h1 h2
            obtain ⟨k1, k2, k3⟩ := cap_kept hwf hd (lo := low - l) (c := c - l) (by omega) (by omega)
            have hext := k2.ext
            refine ⟨η.putC σ.nextC (c - l), w, ?_, ?_, k1, k2, k3⟩
            · simp only [Instr.sliceAt, Instr.slice, Sem.run_bind, ty_under hT hti, hdsc, Result.andThen_ok, ren, Sem.run_pure, hren, Option.map_none, b5, ty_size hT hei]
              rw [if_neg (by omega)]
              have e : renC (η.putC σ.nextC (c - l)) (capBase + σ.nextC) = c - l := by
                unfold renC
                rw [if_neg (by omega)]
                have : capBase + σ.nextC - capBase = σ.nextC := by omega
                simp [Env.c, Env.putC, this]
              rw [e]
              cases a with
              | none => rfl
              | some a' =>
                simp only [Option.map_some, renA_add']
                rfl
            · simp only [ok]
              refine ⟨fun b hb' => ?_, .inr ?_⟩
              · cases a with
                | none => cases hb'
                | some a' =>
                  simp only [Option.map_some, Option.some.injEq] at hb'
                  rw [← hb', add_block]
                  exact hx.1 a' rfl
              · have : capBase + σ.nextC - capBase = σ.nextC := by omega
                rw [this]
                simp [Env.putC]
          · cases h
  · cases h
end
end
end Go.Sym
namespace Go.Sym
open Go
noncomputable section
set_option maxRecDepth 20000
theorem growBy_le (n : Nat) : ∀ (r c : Nat), Builtin.growBy n r c ≤ 2 ^ r * (c + 768)
  | 0, c => by simp [Builtin.growBy]
  | r + 1, c => by
    simp only [Builtin.growBy]
    have hp : 1 ≤ 2 ^ r := Nat.one_le_two_pow
    split
    · have : 1 * (c + 768) ≤ 2 ^ (r + 1) * (c + 768) := Nat.mul_le_mul_right _ (by rw [Nat.pow_succ]; omega)
      omega
    · refine Nat.le_trans (growBy_le n r _) ?_
      rw [Nat.pow_succ, Nat.mul_assoc]
      exact Nat.mul_le_mul_left _ (by omega)
theorem nextcap_le {need cap : Nat} (h1 : need ≤ 1000000) (h2 : cap < need) : Builtin.nextslicecap need cap ≤ 17000000 := by
  unfold Builtin.nextslicecap
  split
  · omega
  · split
    · omega
    · have h := growBy_le need 4 cap
      generalize Builtin.growBy need 4 cap = g at h ⊢
      omega
def NewsAre (cx : Ctx) (w : World) (size : Nat) (z : Value) (d : TypeDesc) (x' : Value) (m : Nat) (news : List Value) : Prop :=
  ((∃ e, d = .slice e) ∧ (∃ xa xc, x' = .slice xa m xc) ∧ ∀ w' : World, w'.heap = w.heap → (Builtin.firstCells size m x').run cx.P w' = .ok news.toArray w') ∨
  (d = .int .i64 ∧ (∃ k, x' = .int k (m : Int)) ∧ m ≤ 1000000 ∧ news = zeros z.cells.toList m)
theorem zeroCells_eq (z : Array Value) (n : Nat) : (Builtin.zeroCells z n) = (zeros z.toList n).toArray := by
  unfold Builtin.zeroCells
  by_cases h : z.size = 0
  · have hz : z.toList = [] := by
      apply List.eq_nil_of_length_eq_zero
      simpa using h
    have : zeros z.toList n = [] := by
      apply List.eq_nil_of_length_eq_zero
      rw [zeros_length, hz]
      simp
    rw [this, h]
    simp
  · exact zeros_array z n _ rfl (by omega)
section
variable {cx : Ctx} (hT : TysOk cx) {w : World} {t xt elem : TypeId} {i ei xi : TI} (hi : ty cx t = some i) (hdsc : i.desc = .slice elem) (hei : ty cx elem = some ei) (hxi : ty cx xt = some xi)
  {z : Value} (hz : ei.zero = some z) (hzs : z.cells.size = ei.size) (hsz : 0 < ei.size) (hby : ei.bytes ≤ 1000000)
  {ts : Array TypeId} (ht0 : ts[0]? = some t) (ht1 : ts[1]? = some xt) {as : Array Value} {base : Option Addr} {len cap : Nat} {x' : Value}
  (ha0 : as[0]? = some (.slice base len cap)) (ha1 : as[1]? = some x') {m : Nat} {news : List Value} (hn : NewsAre cx w ei.size z xi.desc x' m news) (type : TypeId)
include hT hi hdsc hei hxi hz hzs hsz hby ht0 ht1 ha0 ha1 hn
omit hzs in
theorem append_inPlace (hle : len + m ≤ cap) {w1 : World} (hst : ∀ a, base = some a → (Go.storeCells (a.add (len * ei.size)) news).run cx.P w = .ok () w1) (hb : base = none → w1 = w) :
    (Builtin.append_ ts type as).run cx.P w = .ok (.slice base (len + m) cap) w1 := by
  rcases hn with ⟨⟨e, he⟩, ⟨xa, xc, rfl⟩, hrun⟩ | ⟨he, ⟨k, rfl⟩, hm, rfl⟩
  · simp only [Builtin.append_, ht0, ha0, ha1, ht1, Sem.run_bind, ty_under hT hi, hdsc, ty_size hT hei, ty_under hT hxi, he, Result.andThen_ok, Sem.run_pure, Bool.false_eq_true, if_false, Builtin.lenOf, if_pos hle, Bool.not_false, if_true, hrun w rfl]
    cases base with
    | none => simp [hb rfl]
    | some a => simp [hst a rfl]
  · obtain ⟨f, hf, _, hfb, _⟩ := ty_info hT hei w
    have wl : IntKind.i64.wrap (m : Int) = m := by
      simp only [IntKind.wrap, IntKind.bits, IntKind.signed]
      simp
      omega
    have hmul : m * ei.bytes ≤ 1000000 * 1000000 := Nat.mul_le_mul hm hby
    have hb1 : ¬ ((m : Int) * (f.bytes : Int) > 2 ^ 48) := by
      rw [hfb]
      have : (m : Int) * (ei.bytes : Int) = ((m * ei.bytes : Nat) : Int) := by simp
      omega
    have hneg : ¬ ((m : Int) < 0) := by omega
    simp only [Builtin.append_, ht0, ha0, ha1, ht1, Sem.run_bind, ty_under hT hi, hdsc, ty_size hT hei, ty_under hT hxi, he, Result.andThen_ok, Sem.run_pure, if_true, asInt, asIntOf, wl, if_neg hneg, hf, if_neg hb1, Int.toNat_natCast, if_pos hle, Bool.not_true, Bool.false_eq_true, if_false]
    by_cases h0 : m * ei.size = 0
    · have hc0 : m = 0 := by
        rcases Nat.mul_eq_zero.1 h0 with h | h
        · exact h
        · omega
      subst hc0
      simp only [h0, if_true, Sem.run_pure, Result.andThen_ok, Sem.run_bind]
      cases base with
      | none => simp [hb rfl]
      | some a =>
        have := hst a rfl
        simp only [zeros] at this
        simp [this]
    · simp only [h0, if_false, Sem.run_bind, ty_zero hT hei hz, Result.andThen_ok, Sem.run_pure, zeroCells_eq]
      cases base with
      | none => simp [hb rfl]
      | some a => simp [hst a rfl]
theorem append_grow (hle : ¬ len + m ≤ cap) (hbig : len + m ≤ 1000000) {olds : List Value} (hold : (Builtin.firstCells ei.size len (.slice base len cap)).run cx.P w.drew = .ok olds.toArray w.drew) :
    ∃ n, len + m ≤ n ∧ n < 2 ^ 63 ∧ (Builtin.append_ ts type as).run cx.P w = .ok (.slice (some ⟨w.heap.size, 0, none⟩) (len + m) n) (w.drew.alloc (.cells (olds ++ news ++ zeros z.cells.toList (n - (len + m))).toArray elem)) := by
  have hforced : (Question.appendCap (len + m) cap elem).forced = false := rfl
  refine ⟨(Question.appendCap (len + m) cap elem).cut (w.tape w.drawn (.appendCap (len + m) cap elem)), ?_, ?_, ?_⟩
  · simp only [Question.cut]
    omega
  · simp only [Question.cut]
    have := Nat.mod_lt (w.tape w.drawn (Question.appendCap (len + m) cap elem)) (show 0 < 2 ^ 63 - (len + m) by omega)
    omega
  generalize hq : (Question.appendCap (len + m) cap elem).cut (w.tape w.drawn (.appendCap (len + m) cap elem)) = n
  obtain ⟨f, hf, _, hfb, _⟩ := ty_info hT hei w
  obtain ⟨f', hf', _, hfb', _⟩ := ty_info hT hei w.drew
  have hnc : ¬ (Builtin.nextslicecap (len + m) cap * f.bytes > 2 ^ 48) := by
    rw [hfb]
    have h1 := nextcap_le hbig (Nat.lt_of_not_le hle)
    have h2 : Builtin.nextslicecap (len + m) cap * ei.bytes ≤ 17000000 * 1000000 := Nat.mul_le_mul h1 hby
    omega
  have hmx : ¬ (((len + m : Nat) : Int) > IntKind.i64.max) := by
    simp only [IntKind.max, IntKind.bits, IntKind.signed]
    simp
    omega
  have hch : (choose (.appendCap (len + m) cap elem)).run cx.P w = .ok n w.drew := by
    rw [run_choose, hforced]
    simp [hq]
  rcases hn with ⟨⟨e, he⟩, ⟨xa, xc, rfl⟩, hrun⟩ | ⟨he, ⟨k, rfl⟩, hm, rfl⟩
  · simp only [Builtin.append_, ht0, ha0, ha1, ht1, Sem.run_bind, ty_under hT hi, hdsc, ty_size hT hei, ty_under hT hxi, he, Result.andThen_ok, Sem.run_pure, Bool.false_eq_true, if_false, Builtin.lenOf, if_neg hle, Bool.not_false, if_true, hf, hf', if_neg hnc, hch, run_askRoom, hold, hrun w.drew rfl, ty_zero hT hei hz, zeroCells_eq, hmx, false_and]
    simp [Go.newRow]
    rfl
  · have wl : IntKind.i64.wrap (m : Int) = m := by
      simp only [IntKind.wrap, IntKind.bits, IntKind.signed]
      simp
      omega
    have hmul : m * ei.bytes ≤ 1000000 * 1000000 := Nat.mul_le_mul hm hby
    have hb1 : ¬ ((m : Int) * (f.bytes : Int) > 2 ^ 48) := by
      rw [hfb]
      have : (m : Int) * (ei.bytes : Int) = ((m * ei.bytes : Nat) : Int) := by simp
      omega
    have hneg : ¬ ((m : Int) < 0) := by omega
    simp only [Builtin.append_, ht0, ha0, ha1, ht1, Sem.run_bind, ty_under hT hi, hdsc, ty_size hT hei, ty_under hT hxi, he, Result.andThen_ok, Sem.run_pure, if_true, asInt, asIntOf, wl, if_neg hneg, hf, hf', if_neg hb1, Int.toNat_natCast, if_neg hle, Bool.not_true, Bool.false_eq_true, if_false, hmx, false_and, if_neg hnc, hch, run_askRoom, hold]
    by_cases h0 : m * ei.size = 0
    · have hc0 : m = 0 := by
        rcases Nat.mul_eq_zero.1 h0 with h | h
        · exact h
        · omega
      subst hc0
      simp only [h0, if_true, Sem.run_pure, Result.andThen_ok, Sem.run_bind, ty_zero hT hei hz, zeroCells_eq]
      simp [Go.newRow, zeros]
      rfl
    · simp only [h0, if_false, Sem.run_bind, ty_zero hT hei hz, Result.andThen_ok, Sem.run_pure, zeroCells_eq]
      simp [Go.newRow]
      rfl
end
theorem renC_new {η : Env} {k c : Nat} (h : η.cap k = some c) : renC η (capBase + k) = c := by
  unfold renC
  rw [if_neg (Nat.not_lt.2 (Nat.le_add_right _ _)), Nat.add_sub_cancel_left]
  unfold Env.c
  rw [h]
  rfl
theorem renA_new {η : Env} {i b : Nat} (h : η.blk i = some b) : renA η ⟨i, 0, none⟩ = ⟨b, 0, none⟩ := by
  unfold renA Env.b
  rw [h]
  rfl
section
variable {cx : Ctx} (hT : TysOk cx) {D : Nat → Prop} {σ : St} {η : Env} {w : World} (hwf : WF (vw cx σ)) (hd : Den cx.P D (vw cx σ) η w)
include hT hwf hd
omit hwf in
theorem newsOf_sound {xt : TypeId} {xi : TI} (_hxi : ty cx xt = some xi) {size : Nat} {z x : Value} (hpz : plain z = true) (hx : ok η x) (hD : ∀ i ∈ blockOf x, D i) {m : Nat} {news : List Value} (h : newsOf cx σ size z xi.desc x = some (m, news)) :
    NewsAre cx w size z xi.desc (ren η x) m (news.map (ren η)) ∧ ∀ v ∈ news, ok η v := by
  unfold newsOf at h
  split at h
  · rename_i e k c hdx
    cases hb : Nat.beq k 0 with
    | false => simp [hb] at h
    | true =>
      simp only [hb, cond_true, Option.some.injEq, Prod.mk.injEq] at h
      obtain ⟨rfl, rfl⟩ := h
      have hk : k = 0 := Nat.eq_of_beq_eq_true hb
      subst hk
      exact ⟨.inl ⟨⟨e, hdx⟩, ⟨none, renC η c, rfl⟩, fun w' _ => rfl⟩, by simp⟩
  · rename_i e a k c hdx
    cases hb0 : Nat.beq k 0 with
    | true =>
      simp only [hb0, cond_true, Option.some.injEq, Prod.mk.injEq] at h
      obtain ⟨rfl, rfl⟩ := h
      have hk : k = 0 := Nat.eq_of_beq_eq_true hb0
      subst hk
      exact ⟨.inl ⟨⟨e, hdx⟩, ⟨some (renA η a), renC η c, rfl⟩, fun w' _ => by
        show (Go.loadCells (renA η a) (0 * size)).run cx.P w' = _
        rw [Nat.zero_mul]
        rfl⟩, by simp⟩
    | false =>
    simp only [hb0, cond_false, Option.bind_eq_some_iff] at h
    obtain ⟨cs, hcs, h⟩ := h
    simp only [Option.some.injEq, Prod.mk.injEq] at h
    obtain ⟨rfl, rfl⟩ := h
    simp only [ok] at hx
    have hb := hx.1 a rfl
    have hDa : D a.block := hD a.block (by simp [blockOf])
    refine ⟨.inl ⟨⟨e, hdx⟩, ⟨some (renA η a), renC η c, rfl⟩, fun w' hw' => ?_⟩, (loadCells_sound hd hb hDa hcs).2.1⟩
    have hd' : Den cx.P D (vw cx σ) η w' := hd.grow fun k _ => by rw [hw']
    exact (loadCells_sound hd' hb hDa hcs).2.2.2
  · rename_i hdx
    simp only [Option.bind_eq_some_iff] at h
    obtain ⟨n, hn, h⟩ := h
    simp only [Option.some.injEq, Prod.mk.injEq] at h
    obtain ⟨rfl, rfl⟩ := h
    obtain ⟨k, rfl, hle⟩ := natOf_inv hn
    refine ⟨.inr ⟨hdx, ⟨k, rfl⟩, hle, zeros_ren hpz n⟩, fun v hv => plain_ok η v (plain_cells hpz v (by simpa using zeros_mem _ _ _ hv))⟩
  · cases h
theorem grown_fresh {elem : TypeId} {size n c : Nat} {cells rest : List Value} {v : Value} {σ0 σ' : St} {G : Nat → Prop} [DecidablePred G]
    (h0 : σ0.next = σ.next ∧ σ0.nextC = σ.nextC ∧ σ0.caps = σ.caps) (hl0 : ∀ j, look cx σ0 j = if G j then none else look cx σ j) (hG : ∀ j, G j → (∃ p, look cx σ j = some p ∧ p.isRo = false) ∧ D j)
    (hlow : σ0.low ≤ σ.low ∧ ∀ j, G j → σ0.low ≤ j) (hcells : ∀ x ∈ cells, ok η x) (hnc : n ≤ c) (hc : c < 2 ^ 63) (hlen : cells.length + rest.length = c * size)
    (h : grown σ0 elem size n cells = some (.val v σ')) :
    Gives cx D σ η w (.ok (.slice (some ⟨w.heap.size, 0, none⟩) n c) (w.drew.alloc (.cells (cells.map (ren η) ++ rest).toArray elem))) v σ' G := by
  obtain ⟨hn0, hnC0, hcaps0⟩ := h0
  unfold grown at h
  · skip
    injection h with h
    injection h with h1 h2
    subst h1 h2
    have hd' : Den cx.P D (vw cx σ) η w.drew := hd.grow fun k _ => rfl
    have hn1 : η.blk σ.next = none := hd.dom σ.next (Nat.le_refl _)
    have hn2 : η.cap σ.nextC = none := hd.domC σ.nextC (Nat.le_refl _)
    have hext : Ext η ((η.put σ.next w.heap.size).putC σ.nextC c) :=
      (Env.put_ext (b := w.heap.size) hn1).trans (Env.putC_ext hn2)
    have hgC : ∀ k, (σ0.caps.set σ0.nextC (some n)).get k = if k = σ.nextC then some n else σ.caps.get k := fun k => by
      rw [hnC0, hcaps0]
      exact Tr.get_set _ _ _ _
    obtain ⟨k1, k2, k3⟩ := new_kept (G := G) (w := w.drew) (w' := w.drew.alloc (.cells (cells.map (ren η) ++ rest).toArray elem)) (o := .opn cells elem size σ0.nextC)
      (η' := (η.put σ.next w.heap.size).putC σ.nextC c)
      (σ' := { next := σ0.next + 1, nextC := σ0.nextC + 1, mem := σ0.mem.set σ0.next (some (.own (.opn cells elem size σ0.nextC))), caps := σ0.caps.set σ0.nextC (some n), low := σ0.low })
      hwf hd' (fun j => by
        rw [look_put (σ := σ0) (i := σ0.next) rfl, hl0, hn0]) hG (by show σ0.next + 1 = _; rw [hn0]) hlow rfl rfl rfl (by simp) (fun _ hk => heap_alloc_lt hk)
      (fun _ => rfl) rfl (by show σ.nextC ≤ σ0.nextC + 1; omega)
      (fun k hk => by show (σ0.caps.set σ0.nextC (some n)).get k = _; rw [hgC, if_neg (by omega)])
      (fun k hk => by
        show (if k = σ.nextC then some c else η.cap k) = η.cap k
        rw [if_neg]
        intro e
        change k < σ.nextC ∨ σ0.nextC + 1 ≤ k at hk
        omega)
      (fun k lo hlo => by
        change (σ0.caps.set σ0.nextC (some n)).get k = some lo at hlo
        show k < σ0.nextC + 1
        rw [hgC] at hlo
        by_cases e : k = σ.nextC
        · omega
        · rw [if_neg e] at hlo
          have : k < σ.nextC := hwf.caps k lo hlo
          omega)
      (fun k lo c' hk hlo hc' => by
        change (σ0.caps.set σ0.nextC (some n)).get k = some lo at hlo
        change (if k = σ.nextC then some c else η.cap k) = some c' at hc'
        rw [hgC] at hlo
        by_cases e : k = σ.nextC
        · rw [if_pos e] at hlo hc'
          injection hlo with hlo
          injection hc' with hc'
          unfold capBase
          omega
        · rw [if_neg e] at hlo
          have : k < σ.nextC := hwf.caps k lo hlo
          omega)
      (fun x hx => ok_ext hext x (hcells x hx))
      (by
        refine ⟨_, heap_alloc_new, ?_, ?_, ?_, ?_⟩
        · rw [hnC0]
          simp [Env.c, Env.putC, hlen]
        · have : cells.map (ren ((η.put σ.next w.heap.size).putC σ.nextC c)) = cells.map (ren η) := List.map_congr_left fun x hx => ren_ext hext x (hcells x hx)
          rw [this]
          simp
        · simp
        · rw [hnC0]
          simp [Env.putC])
    refine ⟨_, _, ?_, ?_, k1, k2.undrew, k3⟩
    · simp only [ren, Option.map_some, renA, renC]
      rw [if_neg (by omega), hnC0, hn0]
      have : capBase + σ.nextC - capBase = σ.nextC := by omega
      simp [Env.b, Env.c, Env.put, Env.putC, this]
    · simp only [ok]
      rw [hnC0, hn0]
      have : capBase + σ.nextC - capBase = σ.nextC := by omega
      refine ⟨fun a ha => ?_, .inr ?_⟩
      · have ha := Option.some.inj ha
        rw [← ha]
        simp [Env.put, Env.putC]
      · rw [this]
        simp [Env.putC]
theorem opAppend_sound {t xt : TypeId} {s x v : Value} {σ' : St} {ts : Array TypeId} (ht0 : ts[0]? = some t) (ht1 : ts[1]? = some xt) {as : Array Value} (ha0 : as[0]? = some (ren η s)) (ha1 : as[1]? = some (ren η x))
    (type : TypeId) (hs : ok η s) (hx : ok η x) (hDs : ∀ i ∈ blockOf s, D i) (hDx : ∀ i ∈ blockOf x, D i) (h : opAppend cx σ t xt s x = some (.val v σ')) :
    ∃ W : Nat → Prop, (∀ i, W i → i ∈ blockOf s) ∧ Gives cx D σ η w ((Builtin.append_ ts type as).run cx.P w) v σ' W := by
  simp only [opAppend, Option.bind_eq_bind, Option.bind_eq_some_iff] at h
  obtain ⟨i, hi, h⟩ := h
  split at h
  case h_2 => cases h
  rename_i elem base len cap hdsc
  simp only [Option.bind_eq_some_iff] at h
  obtain ⟨ei, hei, xi, hxi, z, hz, h⟩ := h
  unfold appElem at h
  cases hg : (Nat.blt 0 ei.size && Nat.ble ei.bytes 1000000 && Nat.beq z.cells.size ei.size) with
  | false => simp [hg] at h
  | true =>
    rw [hg, cond_true] at h
    simp only [Bool.and_eq_true, Nat.blt_eq] at hg
    obtain ⟨⟨hsz, hby⟩, hzs⟩ := hg
    have hby := Nat.le_of_ble_eq_true hby
    have hzs := Nat.eq_of_beq_eq_true hzs
    have hpz : plain z = true := (hT elem ei hei).zero z hz
    simp only [Option.bind_eq_some_iff] at h
    obtain ⟨⟨m, news⟩, hnews, h⟩ := h
    obtain ⟨hn1, hn2⟩ := newsOf_sound hT hd hxi hpz hx hDx hnews
    cases hg2 : (news.all (·.oneCell') && Nat.ble (len + m) 1000000) with
    | false => simp [hg2] at h
    | true =>
      simp only [hg2, cond_true] at h
      simp only [Bool.and_eq_true] at hg2
      have hbig := Nat.le_of_ble_eq_true hg2.2
      have hnl : news.length = m * ei.size := by
        unfold newsOf at hnews
        split at hnews
        · rename_i k c _
          cases hb : Nat.beq k 0 with
          | false => simp [hb] at hnews
          | true =>
            simp only [hb, cond_true, Option.some.injEq, Prod.mk.injEq] at hnews
            obtain ⟨rfl, rfl⟩ := hnews
            simp
        · rename_i a k c _
          cases hb0 : Nat.beq k 0 with
          | true =>
            simp only [hb0, cond_true, Option.some.injEq, Prod.mk.injEq] at hnews
            obtain ⟨rfl, rfl⟩ := hnews
            simp
          | false =>
          simp only [hb0, cond_false, Option.bind_eq_some_iff] at hnews
          obtain ⟨cs, hcs, hnews⟩ := hnews
          simp only [Option.some.injEq, Prod.mk.injEq] at hnews
          obtain ⟨rfl, rfl⟩ := hnews
          simp only [ok] at hx
          exact (loadCells_sound hd (hx.1 a rfl) (hDx a.block (by simp [blockOf])) hcs).1
        · simp only [Option.bind_eq_some_iff] at hnews
          obtain ⟨n, hn, hnews⟩ := hnews
          simp only [Option.some.injEq, Prod.mk.injEq] at hnews
          obtain ⟨rfl, rfl⟩ := hnews
          rw [zeros_length]
          simp [hzs]
        · cases hnews
      unfold appAny at h
      cases base with
      | none =>
        simp only [appNone] at h
        cases hb : (Nat.beq len 0 && Nat.beq cap 0) with
        | false => simp [hb] at h
        | true =>
          simp only [Bool.and_eq_true] at hb
          have hl0 := Nat.eq_of_beq_eq_true hb.1
          have hc0 := Nat.eq_of_beq_eq_true hb.2
          subst hl0 hc0
          have hrc : renC η 0 = 0 := rfl
          simp only [ren, Option.map_none, hrc] at ha0
          simp only [Nat.beq_eq_true_eq, Bool.and_self, cond_true, show Nat.beq 0 0 = true from rfl] at h
          cases hm : Nat.beq m 0 with
          | true =>
            simp only [hm, cond_true, Option.some.injEq, Res.val.injEq] at h
            obtain ⟨rfl, rfl⟩ := h
            have hm0 := Nat.eq_of_beq_eq_true hm
            subst hm0
            refine ⟨fun _ => False, fun _ h => h.elim, Gives.same hwf hd ?_ hs⟩
            have := append_inPlace hT hi hdsc hei hxi hz hsz hby ht0 ht1 ha0 ha1 hn1 type (Nat.le_refl _) (w1 := w) (fun a ha => by cases ha) (fun _ => rfl)
            simpa [ren, hrc] using this
          | false =>
            simp only [hm, cond_false] at h
            have hm0 : m ≠ 0 := fun e => by subst e; simp at hm
            obtain ⟨n, g1, g2, g3⟩ := append_grow hT hi hdsc hei hxi hz hzs hsz hby ht0 ht1 ha0 ha1 hn1 type (by omega) hbig (olds := []) rfl
            simp only [Nat.zero_add] at g1 g3
            refine ⟨fun _ => False, fun _ h => h.elim, ?_⟩
            rw [g3]
            have := grown_fresh hT hwf hd (G := fun _ => False) (σ0 := σ) (rest := zeros z.cells.toList (n - m)) ⟨rfl, rfl, rfl⟩ (fun j => by simp) (fun _ h => h.elim) ⟨Nat.le_refl _, fun _ h => h.elim⟩ hn2 g1 g2
              (by rw [hnl, zeros_length]; simp only [Array.length_toList, hzs]; rw [← Nat.add_mul]; congr 1; omega) h
            simpa using this
      | some a =>
        simp only at h
        simp only [ok] at hs
        have hblk := hs.1 a rfl
        have hDa : D a.block := hDs a.block (by simp [blockOf])
        simp only [ren, Option.map_some] at ha0
        cases hcb : Nat.blt cap capBase with
        | true =>
          simp only [hcb, cond_true, appKnown] at h
          have hclt : cap < capBase := by simpa [Nat.blt_eq] using hcb
          have hrc : renC η cap = cap := by unfold renC; rw [if_pos hclt]
          rw [hrc] at ha0
          cases hle : Nat.ble (len + m) cap with
          | true =>
            have hle' := Nat.le_of_ble_eq_true hle
            simp only [hle, cond_true] at h
            cases hm : Nat.beq m 0 with
            | true =>
              simp only [hm, cond_true, Option.some.injEq, Res.val.injEq] at h
              obtain ⟨rfl, rfl⟩ := h
              have hm0 := Nat.eq_of_beq_eq_true hm
              subst hm0
              have hnil : news = [] := List.eq_nil_of_length_eq_zero (by rw [hnl]; simp)
              subst hnil
              refine ⟨fun _ => False, fun _ h => h.elim, Gives.same hwf hd ?_ (by simp only [ok]; exact hs)⟩
              have := append_inPlace hT hi hdsc hei hxi hz hsz hby ht0 ht1 ha0 ha1 hn1 type hle' (w1 := w) (fun a _ => rfl) (fun e => by cases e)
              simpa [ren, hrc] using this
            | false =>
              simp only [hm, cond_false, Option.bind_eq_some_iff] at h
              obtain ⟨σ1, hst, h⟩ := h
              simp only [Option.some.injEq, Res.val.injEq] at h
              obtain ⟨rfl, rfl⟩ := h
              have hab : (a.add (len * ei.size)).block = a.block := add_block _
              obtain ⟨w1, s1, s2, s3, s4, s5, s6⟩ := storeCells_sound hwf hd (a := a.add (len * ei.size)) (by rw [hab]; exact hblk) (by rw [hab]; exact hDa) hn2 hst
              rw [hab] at s5
              refine ⟨(· = a.block), fun j hj => by simp [blockOf, hj], η, w1, ?_, ?_, s4, s5, s6⟩
              · have := append_inPlace hT hi hdsc hei hxi hz hsz hby ht0 ht1 ha0 ha1 hn1 type hle' (w1 := w1) (fun b hb => by
                  injection hb with hb
                  subst hb
                  rw [renA_add']
                  exact s1) (fun e => by cases e)
                simpa [ren, hrc] using this
              · simp only [ok]
                exact ⟨fun b hb => by injection hb with hb; rw [← hb]; exact hblk, .inl hclt⟩
          | false =>
            simp only [hle, cond_false, Option.bind_eq_some_iff] at h
            obtain ⟨olds, hold, h⟩ := h
            have hnle : ¬ len + m ≤ cap := fun e => by
              rw [Nat.ble_eq_true_of_le e] at hle
              cases hle
            have hd' : Den cx.P D (vw cx σ) η w.drew := hd.grow fun k _ => rfl
            obtain ⟨l1, l2, _, l4⟩ := loadCells_sound hd' hblk hDa hold
            obtain ⟨n, g1, g2, g3⟩ := append_grow hT hi hdsc hei hxi hz hzs hsz hby ht0 ht1 ha0 ha1 hn1 type hnle hbig (olds := olds.map (ren η)) l4
            refine ⟨fun _ => False, fun _ h => h.elim, ?_⟩
            rw [g3]
            have := grown_fresh hT hwf hd (G := fun _ => False) (σ0 := σ) (rest := zeros z.cells.toList (n - (len + m))) ⟨rfl, rfl, rfl⟩ (fun j => by simp) (fun _ h => h.elim) ⟨Nat.le_refl _, fun _ h => h.elim⟩
              (fun y hy => by
                rcases List.mem_append.1 hy with hy | hy
                · exact l2 y hy
                · exact hn2 y hy) g1 g2
              (by
                rw [List.length_append, l1, hnl, zeros_length]
                simp only [Array.length_toList, hzs]
                rw [← Nat.add_mul, ← Nat.add_mul]
                congr 1
                omega) h
            simpa using this
        | false =>
          simp only [hcb, cond_false, appOpen] at h
          have hcge : ¬ cap < capBase := fun e => by
            have : Nat.blt cap capBase = true := by simpa [Nat.blt_eq] using e
            rw [this] at hcb
            cases hcb
          split at h
          case h_2 => cases h
          rename_i cs e size' k hlook
          cases hgd : (Nat.beq a.off 0 && a.spot.isNone && Nat.beq e elem && Nat.beq size' ei.size && Nat.beq (capBase + k) cap && Nat.ble (len * ei.size) cs.length && (σ.caps.get k).isSome) with
          | false => simp [hgd] at h
          | true =>
            simp only [hgd, cond_true] at h
            simp only [Bool.and_eq_true] at hgd
            obtain ⟨⟨⟨⟨⟨⟨q1, q2⟩, q3⟩, q4⟩, q5⟩, q6⟩, q7⟩ := hgd
            have q1 := Nat.eq_of_beq_eq_true q1
            have q2 : a.spot = none := by simpa using q2
            have q3 := Nat.eq_of_beq_eq_true q3
            have q4 := Nat.eq_of_beq_eq_true q4
            have q5 := Nat.eq_of_beq_eq_true q5
            have q6 := Nat.le_of_ble_eq_true q6
            subst q3 q4 q5
            have hsub : capBase + k - capBase = k := by omega
            obtain ⟨b, hb⟩ := Option.isSome_iff_exists.1 hblk
            have hbb : η.b a.block = b := by unfold Env.b; rw [hb]; rfl
            obtain ⟨ho1, cur, hcur, hcsz, htk, hcl, hcap⟩ := hd.obj _ _ _ hDa hlook hb
            have hrc : renC η (capBase + k) = η.c k := by unfold renC; rw [if_neg (by omega), hsub]
            rw [hrc] at ha0
            have hra : renA η a = ⟨b, 0, none⟩ := by unfold renA; rw [hbb, q1, q2]
            rw [hra] at ha0
            have hne : σ.next ≠ a.block := fun e => by
              have : a.block < σ.next := hwf.lt _ _ hlook
              omega
            have halt : a.block < σ.next := hwf.lt _ _ hlook
            have hgone : ∀ j, look cx (goneFrom σ a.block) j = if j = a.block then none else look cx σ j := fun j => look_gone rfl j
            have htakeok : ∀ y ∈ cs.take (len * ei.size), ok η y := fun y hy => ho1 y (List.mem_of_mem_take hy)
            have hallok : ∀ y ∈ cs.take (len * ei.size) ++ news, ok η y := fun y hy => by
              rcases List.mem_append.1 hy with hy | hy
              · exact htakeok y hy
              · exact hn2 y hy
            have htlen : (cs.take (len * ei.size)).length = len * ei.size := by rw [List.length_take]; omega
            have hcurtake : cur.toList.take (len * ei.size) = (cs.take (len * ei.size)).map (ren η) := by
              rw [List.map_take, ← htk, List.take_take, Nat.min_eq_left q6]
            refine ⟨(· = a.block), fun j hj => by simp [blockOf, hj], ?_⟩
            by_cases hle : len + m ≤ η.c k
            ·
              have hfit : len * ei.size + news.length ≤ cur.size := by
                rw [hnl, hcsz, ← Nat.add_mul]
                exact Nat.mul_le_mul_right _ hle
              have hone : ∀ v ∈ news.map (ren η), v.oneCell' = true := by
                intro v hv'
                obtain ⟨u, hu, rfl⟩ := List.mem_map.1 hv'
                rw [ren_oneCell]
                exact List.all_eq_true.1 hg2.1 u hu
              have hst := run_storeCells_at cx.P b (len * ei.size) e (news.map (ren η)) 0 _ w hcur (by simpa using hfit) hone
              have hadd : (⟨b, 0, none⟩ : Addr).add (len * ei.size) = ⟨b, len * ei.size, none⟩ := by
                unfold Addr.add
                split
                · rename_i e0; simp [e0]
                · simp
              have hrun := append_inPlace hT hi hdsc hei hxi hz hsz hby ht0 ht1 ha0 ha1 hn1 type hle
                (fun b' hb' => by
                  have hb' := Option.some.inj hb'
                  subst hb'
                  rw [hadd]
                  exact hst) (fun e => by cases e)
              unfold grown at h
              · skip
                injection h with h
                injection h with h1 h2
                subst h1 h2
                have hn1' : η.blk σ.next = none := hd.dom σ.next (Nat.le_refl _)
                have hn2' : η.cap σ.nextC = none := hd.domC σ.nextC (Nat.le_refl _)
                have hext : Ext η ((η.put σ.next b).putC σ.nextC (η.c k)) := (Env.put_ext (b := b) hn1').trans (Env.putC_ext hn2')
                have hkc : η.c k < capBase := by
                  obtain ⟨c', hc'⟩ := Option.isSome_iff_exists.1 hcap
                  have e : η.c k = c' := by unfold Env.c; rw [hc']; rfl
                  obtain ⟨lo, hlo⟩ := Option.isSome_iff_exists.1 q7
                  rw [e]
                  exact (hd.caps k lo c' hlo hc').2
                have hgC : ∀ j, ((goneFrom σ a.block).caps.set (goneFrom σ a.block).nextC (some (len + m))).get j = if j = σ.nextC then some (len + m) else σ.caps.get j := fun j =>
                  Tr.get_set _ _ _ _
                obtain ⟨k1, k2, k3⟩ := next_kept (g := a.block) (b := b) (o := .opn (cs.take (len * ei.size) ++ news) e ei.size σ.nextC)
                  (cs := (cur.toList.take (len * ei.size + 0) ++ news.map (ren η) ++ cur.toList.drop (len * ei.size + 0 + (news.map (ren η)).length)).toArray)
                  (η' := (η.put σ.next b).putC σ.nextC (η.c k))
                  (σ' := { next := σ.next + 1, nextC := σ.nextC + 1, mem := (goneFrom σ a.block).mem.set σ.next (some (.own (.opn (cs.take (len * ei.size) ++ news) e ei.size σ.nextC))), caps := σ.caps.set σ.nextC (some (len + m)), low := (goneFrom σ a.block).low })
                  hwf hd hlook hb hDa rfl (fun j => by rw [look_put (σ := goneFrom σ a.block) (i := σ.next) rfl, hgone]) rfl ⟨Nat.min_le_left _ _, Nat.min_le_right _ _⟩ (fun _ => rfl) rfl
                  (by show σ.nextC ≤ σ.nextC + 1; omega)
                  (fun j hj => (hgC j).trans (if_neg (by omega)))
                  (fun j hj => by
                    show (if j = σ.nextC then some (η.c k) else η.cap j) = η.cap j
                    rw [if_neg]
                    intro e
                    change j < σ.nextC ∨ σ.nextC + 1 ≤ j at hj
                    omega)
                  (fun j lo hlo => by
                    have hlo := (hgC j).symm.trans hlo
                    show j < σ.nextC + 1
                    by_cases e : j = σ.nextC
                    · omega
                    · rw [if_neg e] at hlo
                      have : j < σ.nextC := hwf.caps j lo hlo
                      omega)
                  (fun j lo c' hj hlo hc' => by
                    have hlo := (hgC j).symm.trans hlo
                    change (if j = σ.nextC then some (η.c k) else η.cap j) = some c' at hc'
                    by_cases e : j = σ.nextC
                    · rw [if_pos e] at hlo hc'
                      injection hlo with hlo
                      injection hc' with hc'
                      omega
                    · rw [if_neg e] at hlo
                      have : j < σ.nextC := hwf.caps j lo hlo
                      omega)
                  (fun x hx => ok_ext hext x (hallok x hx))
                  (by
                    have hmap : (cs.take (len * ei.size) ++ news).map (ren ((η.put σ.next b).putC σ.nextC (η.c k))) = (cs.take (len * ei.size) ++ news).map (ren η) := List.map_congr_left fun x hx => ren_ext hext x (hallok x hx)
                    have hlen1 : (cur.toList.take (len * ei.size)).length = len * ei.size := by rw [hcurtake, List.length_map, htlen]
                    have hcl' : cur.toList.length = cur.size := by simp
                    refine ⟨_, setRow_heap w _ _ _ _ _ hcur, ?_, ?_, ?_, ?_⟩
                    · simp [Env.c, Env.putC]
                      simp [Env.c] at hcsz
                      omega
                    · rw [hmap]
                      simp only [Nat.add_zero, List.length_append, htlen, List.map_append, ← hcurtake]
                      rw [List.take_append_of_le_length (by rw [List.length_append, hlen1, List.length_map]; omega), List.take_of_length_le (by rw [List.length_append, hlen1, List.length_map]; omega)]
                    · simp
                      omega
                    · simp [Env.putC])
                refine ⟨_, _, ?_, ?_, k1, k2, k3⟩
                · rw [hrun]
                  have e1 : ((η.put σ.next b).putC σ.nextC (η.c k)).cap σ.nextC = some (η.c k) := by simp [Env.putC]
                  have e2 : ((η.put σ.next b).putC σ.nextC (η.c k)).blk σ.next = some b := by simp [Env.putC, Env.put]
                  simp only [ren, Option.map_some, goneFrom, renA_new e2, renC_new e1]
                · simp only [ok, goneFrom]
                  have : capBase + σ.nextC - capBase = σ.nextC := by omega
                  refine ⟨fun a ha => ?_, .inr ?_⟩
                  · have ha := Option.some.inj ha
                    rw [← ha]
                    simp [Env.put, Env.putC]
                  · rw [this]
                    simp [Env.putC]
            ·
              have hold : (Builtin.firstCells ei.size len (.slice (some ⟨b, 0, none⟩) len (η.c k))).run cx.P w.drew = .ok ((cs.take (len * ei.size)).map (ren η)).toArray w.drew := by
                have hcell : ∀ j v, ((cs.take (len * ei.size)).map (ren η))[j]? = some v → w.drew.cell? ((⟨b, 0, none⟩ : Addr).add j) = some v := by
                  intro j v hj
                  have hadd : (⟨b, 0, none⟩ : Addr).add j = ⟨b, j, none⟩ := by
                    unfold Addr.add
                    split
                    · rename_i e0; simp [e0]
                    · simp
                  rw [hadd, ← hcurtake] at *
                  have hjl : j < len * ei.size := by
                    have := (List.getElem?_eq_some_iff.1 hj).1
                    simp at this
                    omega
                  rw [List.getElem?_take_of_lt hjl] at hj
                  have hcur' : w.drew.heap[b]? = some (.cells cur e (0, 0)) := hcur
                  simpa [World.cell?, hcur'] using hj
                have := run_loadCells_list (P := cx.P) w.drew ⟨b, 0, none⟩ _ hcell
                rwa [List.length_map, htlen] at this
              obtain ⟨n, g1, g2, g3⟩ := append_grow hT hi hdsc hei hxi hz hzs hsz hby ht0 ht1 ha0 ha1 hn1 type hle hbig hold
              rw [g3]
              have := grown_fresh hT hwf hd (G := (· = a.block)) (σ0 := goneFrom σ a.block) (rest := zeros z.cells.toList (n - (len + m))) ⟨rfl, rfl, rfl⟩ hgone
                (fun j hj => by subst hj; exact ⟨⟨_, hlook, rfl⟩, hDa⟩) ⟨Nat.min_le_left _ _, fun j hj => by subst hj; exact Nat.min_le_right _ _⟩ hallok g1 g2
                (by
                  rw [List.length_append, htlen, hnl, zeros_length]
                  simp only [Array.length_toList, hzs]
                  rw [← Nat.add_mul, ← Nat.add_mul, Nat.add_sub_of_le g1]) h
              simpa using this
end
end
end Go.Sym
namespace Go.Sym
open Go
noncomputable section
set_option maxRecDepth 20000
section
variable {cx : Ctx} (hT : TysOk cx) {D : Nat → Prop} {σ : St} {η : Env} {w : World} (hwf : WF (vw cx σ)) (hd : Den cx.P D (vw cx σ) η w)
include hT hwf hd
theorem opCopy_sound {t : TypeId} {d x v : Value} {σ' : St} {ts : Array TypeId} (ht0 : ts[0]? = some t) {as : Array Value} (ha0 : as[0]? = some (ren η d)) (ha1 : as[1]? = some (ren η x))
    (type : TypeId) (hds : ok η d) (hx : ok η x) (hDd : ∀ i ∈ blockOf d, D i) (hDx : ∀ i ∈ blockOf x, D i) (h : opCopy cx σ t d x = some (.val v σ')) :
    σ'.next = σ.next ∧ ∃ W : Nat → Prop, (∀ i, W i → i ∈ blockOf d) ∧ Gives cx D σ η w ((Builtin.copy_ ts type as).run cx.P w) v σ' W := by
  simp only [opCopy, Option.bind_eq_bind, Option.bind_eq_some_iff] at h
  obtain ⟨i, hi, h⟩ := h
  split at h
  case h_2 => cases h
  rename_i elem base dLen dCap hdsc
  simp only [Option.bind_eq_some_iff] at h
  obtain ⟨ei, hei, h⟩ := h
  split at h
  · rename_i m xc
    simp only [Option.bind_eq_some_iff, Option.some.injEq, Res.val.injEq] at h
    obtain ⟨_, hm, rfl, rfl⟩ := h
    have hm := Nat.eq_of_beq_eq_true (guard'_some hm)
    subst hm
    refine ⟨rfl, fun _ => False, fun _ h => h.elim, Gives.same hwf hd ?_ (by simp [ok, goInt])⟩
    simp only [ren, Option.map_none] at ha1
    simp only [ren] at ha0
    cases base <;> simp [Builtin.copy_, ht0, ha0, ha1, ty_under hT hi, hdsc, Builtin.lenOf, Builtin.firstCells, ty_size hT hei, ren, goInt, Go.storeCells]
  · rename_i a m xc
    simp only [Option.bind_eq_some_iff] at h
    obtain ⟨cs, hcs, h⟩ := h
    simp only [ok] at hx
    obtain ⟨l1, l2, l3, l4⟩ := loadCells_sound hd (hx.1 a rfl) (hDx a.block (by simp [blockOf])) hcs
    simp only [ren, Option.map_some] at ha1
    simp only [ren] at ha0
    split at h
    · simp only [Option.some.injEq, Res.val.injEq] at h
      obtain ⟨rfl, rfl⟩ := h
      refine ⟨rfl, fun _ => False, fun _ h => h.elim, Gives.same hwf hd ?_ (by simp [ok, goInt])⟩
      simp [Builtin.copy_, ht0, ha0, ha1, ty_under hT hi, hdsc, Builtin.lenOf, Builtin.firstCells, ty_size hT hei, ren, goInt, l4]
    · rename_i b
      simp only [Option.bind_eq_some_iff, Option.some.injEq, Res.val.injEq] at h
      obtain ⟨σ1, hst, rfl, rfl⟩ := h
      simp only [ok] at hds
      obtain ⟨w1, s1, s2, s3, s4, s5, s6⟩ := storeCells_sound hwf hd (hds.1 b rfl) (hDd b.block (by simp [blockOf])) l2 hst
      refine ⟨s2, (· = b.block), fun j hj => by simp [blockOf, hj], η, w1, ?_, by simp [ok, goInt], s4, s5, s6⟩
      simp only [Option.map_some] at ha0
      simp [Builtin.copy_, ht0, ha0, ha1, ty_under hT hi, hdsc, Builtin.lenOf, Builtin.firstCells, ty_size hT hei, ren, goInt, l4, s1]
  · cases h
end
def FP.sees (D : Nat → Prop) : FP → Prop
  | .part rs ws _ => (∀ i ∈ rs, D i) ∧ ∀ i ∈ ws, D i
  | .all _ => True
def FP.writes (W : Nat → Prop) : FP → Prop
  | .part _ ws _ => ∀ i, W i → i ∈ ws
  | .all x => ∀ i, W i → x = true
def FP.makes : FP → Bool
  | .part _ _ m => m
  | .all _ => true
structure FnOk (cx : Ctx) (f : FuncId) (fn : Func) : Prop where
  get : cx.P.funcs[f]? = some fn
  body : bodyOk cx.P.globals.size fn = true
def FnsOk (cx : Ctx) : Prop := ∀ f fn, cx.fn.get f = some fn → FnOk cx f fn
theorem val_inv {σ σ' : St} {m : Option Value} {v : Value} (h : val σ m = some (.val v σ')) : m = some v ∧ σ' = σ := by
  unfold val at h
  split at h
  · simp only [Option.some.injEq, Res.val.injEq] at h
    obtain ⟨rfl, rfl⟩ := h
    exact ⟨rfl, rfl⟩
  · cases h
def Runs (cx : Ctx) (D : Nat → Prop) (σ : St) (η : Env) (w : World) (m : Result Next) (v : Value) (σ' : St) (W : Nat → Prop) : Prop :=
  ∃ η' w' n, m = .ok n w' ∧ (n = .value (ren η' v) ∨ (n = .skip ∧ v = undef)) ∧ ok η' v ∧ WF (vw cx σ') ∧ Kept (vw cx σ) η w (vw cx σ') η' w' W ∧ Den cx.P (fun j => D j ∨ σ.next ≤ j) (vw cx σ') η' w'
theorem Gives.runs {cx : Ctx} {D : Nat → Prop} {σ σ' : St} {η : Env} {w : World} {m : Sem Value} {v : Value} {W : Nat → Prop} (h : Gives cx D σ η w (m.run cx.P w) v σ' W) :
    Runs cx D σ η w ((do pure (.value (← m)) : Sem Next).run cx.P w) v σ' W := by
  obtain ⟨η', w', h1, h2, h3, h4, h5⟩ := h
  refine ⟨η', w', _, ?_, .inl rfl, h2, h3, h4, h5⟩
  simp [h1]
theorem Runs.same {cx : Ctx} {D : Nat → Prop} {σ : St} {η : Env} {w : World} {m : Result Next} {v : Value} (hwf : WF (vw cx σ)) (hd : Den cx.P D (vw cx σ) η w) (hm : m = .ok (.value (ren η v)) w) (hv : ok η v) :
    Runs cx D σ η w m v σ (fun _ => False) :=
  ⟨η, w, _, hm, .inl rfl, hv, hwf, Kept.refl _ _ _, hd.widen⟩
theorem live_lt {cx : Ctx} {σ σ' : St} {η η' : Env} {w w' : World} {W : Nat → Prop} (hwf : WF (vw cx σ)) (hk : Kept (vw cx σ) η w (vw cx σ') η' w' W) {i : Nat} (hi : W i) : Nat.blt σ'.low σ.next = true := by
  obtain ⟨o, ho, _⟩ := hk.live i hi
  have h1 : i < σ.next := hwf.lt i o ho
  have h2 : σ'.low ≤ i := hk.wlow i hi
  simp only [Nat.blt_eq]
  omega
theorem grown_ne {σ : St} {elem : TypeId} {size n : Nat} {cells : List Value} {f : FuncId} {all : List Value} : grown σ elem size n cells ≠ some (.enter f all) := by
  unfold grown
  simp
theorem cond_ne {b : Bool} {x y : Option Res} {r : Res} (hx : x ≠ some r) (hy : y ≠ some r) : cond b x y ≠ some r := by
  cases b
  · exact hy
  · exact hx
theorem bind_ne {α : Type} {x : Option α} {g : α → Option Res} {r : Res} (h : ∀ a, g a ≠ some r) : x.bind g ≠ some r := by
  cases x with
  | none => simp
  | some a => exact h a
theorem val_ne {v : Value} {σ : St} {f : FuncId} {all : List Value} : some (Res.val v σ) ≠ some (.enter f all) := by simp
theorem none_ne {r : Res} : (none : Option Res) ≠ some r := by simp
theorem opAppend_ne {cx : Ctx} {σ : St} {t xt : TypeId} {s x : Value} {f : FuncId} {all : List Value} : opAppend cx σ t xt s x ≠ some (.enter f all) := by
  have hAny : ∀ elem size base len cap s m news, appAny cx σ elem size base len cap s m news ≠ some (.enter f all) := by
    intro elem size base len cap s m news
    cases base with
    | none => exact cond_ne (cond_ne val_ne grown_ne) none_ne
    | some a =>
      refine cond_ne (cond_ne (cond_ne val_ne (bind_ne fun _ => val_ne)) (bind_ne fun _ => grown_ne)) ?_
      unfold appOpen
      split
      · exact cond_ne grown_ne none_ne
      · exact none_ne
  intro h
  simp only [opAppend, Option.bind_eq_bind, Option.bind_eq_some_iff] at h
  obtain ⟨i, hi, h⟩ := h
  split at h
  case h_2 => cases h
  simp only [Option.bind_eq_some_iff] at h
  obtain ⟨ei, hei, xi, hxi, z, hz, h⟩ := h
  refine absurd h ?_
  refine cond_ne (bind_ne fun q => cond_ne (hAny _ _ _ _ _ _ _ _) none_ne) none_ne
theorem opCopy_ne {cx : Ctx} {σ : St} {t : TypeId} {d x : Value} {f : FuncId} {all : List Value} : opCopy cx σ t d x ≠ some (.enter f all) := by
  intro h
  simp only [opCopy, Option.bind_eq_bind, Option.bind_eq_some_iff] at h
  obtain ⟨i, hi, h⟩ := h
  split at h
  case h_2 => cases h
  simp only [Option.bind_eq_some_iff] at h
  obtain ⟨ei, hei, h⟩ := h
  split at h
  · simp only [Option.bind_eq_some_iff] at h
    obtain ⟨_, _, h⟩ := h
    cases h
  · simp only [Option.bind_eq_some_iff] at h
    obtain ⟨_, _, h⟩ := h
    split at h
    · cases h
    · simp only [Option.bind_eq_some_iff] at h
      obtain ⟨_, _, h⟩ := h
      cases h
  · cases h
theorem storeCells_next {cx : Ctx} {σ σ' : St} {a : Addr} {vs : List Value} (h : storeCells cx σ a vs = some σ') : σ'.next = σ.next := by
  simp only [storeCells, Option.bind_eq_bind, Option.bind_eq_some_iff] at h
  obtain ⟨_, _, _, _, h⟩ := h
  split at h
  · simp only [Option.bind_eq_some_iff, Option.some.injEq] at h
    obtain ⟨_, _, rfl⟩ := h
    rfl
  · simp only [Option.bind_eq_some_iff, Option.some.injEq] at h
    obtain ⟨_, _, rfl⟩ := h
    rfl
  · cases h
theorem storeVar_next {cx : Ctx} {σ σ' : St} {t : TypeId} {a : Addr} {v : Value} (h : storeVar cx σ t a v = some σ') : σ'.next = σ.next := by
  simp only [storeVar, Option.bind_eq_bind, Option.bind_eq_some_iff] at h
  obtain ⟨_, _, _, _, h⟩ := h
  exact storeCells_next h
theorem opSlice_next {cx : Ctx} {σ σ' : St} {t : TypeId} {x v : Value} {lo hi mx : Option Value} (h : opSlice cx σ t x lo hi mx = some (.val v σ')) : σ'.next = σ.next := by
  simp only [opSlice, Option.bind_eq_bind, Option.bind_eq_some_iff] at h
  obtain ⟨i, _, h⟩ := h
  split at h
  · simp only [Option.bind_eq_some_iff, Option.some.injEq, Res.val.injEq] at h
    obtain ⟨_, _, _, _, ⟨l, hh, m⟩, _, _, rfl⟩ := h
    rfl
  · simp only [Option.bind_eq_some_iff, Option.some.injEq, Res.val.injEq] at h
    obtain ⟨_, _, ⟨l, hh, m⟩, _, _, rfl⟩ := h
    rfl
  · simp only [Option.bind_eq_some_iff] at h
    obtain ⟨ei, _, h⟩ := h
    split at h
    · simp only [Option.bind_eq_some_iff, Option.some.injEq, Res.val.injEq] at h
      obtain ⟨⟨l, hh, m⟩, _, _, rfl⟩ := h
      rfl
    · simp only [Option.bind_eq_some_iff] at h
      obtain ⟨low, _, h⟩ := h
      split at h
      · simp only [Option.bind_eq_some_iff, Option.some.injEq, Res.val.injEq] at h
        obtain ⟨⟨l, hh, m⟩, _, _, rfl⟩ := h
        rfl
      · simp only [Option.bind_eq_some_iff] at h
        obtain ⟨_, _, ⟨l, hh, m⟩, _, h⟩ := h
        split at h
        · simp only [Option.some.injEq, Res.val.injEq] at h
          obtain ⟨_, rfl⟩ := h
          rfl
        · split at h
          · simp only [Option.some.injEq, Res.val.injEq] at h
            obtain ⟨_, rfl⟩ := h
            rfl
          · cases h
  · cases h
section
variable {cx : Ctx} (hT : TysOk cx) {D : Nat → Prop} {σ : St} {η : Env} {w : World} (hwf : WF (vw cx σ)) (hd : Den cx.P D (vw cx σ) η w)
include hT hwf hd
theorem opCap_sound {ts : Array TypeId} {type t : TypeId} {x v : Value} {as : Array Value} {i : TI} (hi : ty cx t = some i) (ht : ts[0]? = some t) (ha : as[0]? = some (ren η x)) (h : opCap i.desc x = some v) :
    (Builtin.cap_ ts type as).run cx.P w = .ok (ren η v) w ∧ ok η v := by
  unfold opCap at h
  split at h
  · rename_i e a n c hdsc
    cases hb : Nat.blt c capBase with
    | false => simp [hb] at h
    | true =>
      simp only [hb, cond_true, Option.some.injEq] at h
      subst h
      have hlt : c < capBase := by simpa [Nat.blt_eq] using hb
      have hrc : renC η c = c := by unfold renC; rw [if_pos hlt]
      simp [Builtin.cap_, ht, ha, ty_under hT hi, hdsc, ren, goInt, ok, hrc]
  · cases h
theorem opCall_val {a : Fr} {c : Call} {type : TypeId} {v : Value} {σ' : St} (hops : ∀ x ∈ c.operands, ok η (a.eval x)) (o : Oper) (ho : o.op = .call c) (hty : o.type = type)
    (hF : FnsOk cx) (hfp : (fpOf a σ.next σ'.low o).sees D) (h : opCall cx a σ c type = some (.val v σ')) :
    ∃ W, (fpOf a σ.next σ'.low o).writes W ∧ ((fpOf a σ.next σ'.low o).makes = false → σ'.next = σ.next) ∧ Runs cx D σ η w ((execOp (fun x => ren η (a.eval x)) o).run cx.P w) v σ' W := by
  obtain ⟨callee, args, argTypes⟩ := c
  have hargs : ∀ x ∈ args.toList.map a.eval, ok η x := by
    intro x hx
    obtain ⟨y, hy, rfl⟩ := List.mem_map.1 hx
    exact hops y (by simp only [Call.operands]; exact Array.mem_append.2 (.inr (by simpa using hy)))
  have hget : ∀ (k : Nat) x, (args.toList.map a.eval)[k]? = some x → (args.map fun x => ren η (a.eval x))[k]? = some (ren η x) := by
    intro k x hx
    rw [List.getElem?_map, Option.map_eq_some_iff] at hx
    obtain ⟨y, hy, rfl⟩ := hx
    have hy' : args[k]? = some y := by simpa using hy
    simp [hy']
  have hget' : ∀ (k : Nat) x, argTypes.toList[k]? = some x → argTypes[k]? = some x := fun k x hx => by simpa using hx
  have hex : ∀ b, callee = .builtin b → execOp (fun x => ren η (a.eval x)) o = builtin b argTypes type (args.map fun | .const _ => true | _ => false) (args.map fun x => ren η (a.eval x)) := by
    intro b hb
    subst hb
    unfold execOp
    rw [ho, hty]
    rfl
  unfold opCall at h
  split at h
  ·
    rename_i hc
    have hc : callee = .builtin .len := hc
    rw [hex _ hc]
    have hfpe : fpOf a σ.next σ'.low o = .part [] [] false := by
      unfold fpOf; rw [ho, hc]; rfl
    rw [hfpe]
    change callLen cx σ argTypes.toList (args.toList.map a.eval) = _ at h
    unfold callLen at h
    split at h
    · rename_i t _ x _ e1 e2
      obtain ⟨hv, rfl⟩ := val_inv h
      obtain ⟨h1, h2⟩ := opLen_sound hT (w := w) (type := type) (hget' 0 t (by rw [e1]; rfl)) (hget 0 x (by rw [e2]; rfl)) hv
      exact ⟨fun _ => False, fun _ h => h.elim, fun _ => rfl, Runs.same hwf hd (by simp [builtin, h1]) h2⟩
    · cases h
  ·
    rename_i hc
    have hc : callee = .builtin .cap := hc
    rw [hex _ hc]
    have hfpe : fpOf a σ.next σ'.low o = .all (Nat.blt σ'.low σ.next) := by
      unfold fpOf; rw [ho, hc]; rfl
    rw [hfpe]
    change callCap cx σ argTypes.toList (args.toList.map a.eval) = _ at h
    unfold callCap at h
    split at h
    · rename_i t _ x _ e1 e2
      simp only [Option.bind_eq_some_iff] at h
      obtain ⟨i, hi, h⟩ := h
      obtain ⟨hv, rfl⟩ := val_inv h
      obtain ⟨h1, h2⟩ := opCap_sound hT hwf hd (type := type) hi (hget' 0 t (by rw [e1]; rfl)) (hget 0 x (by rw [e2]; rfl)) hv
      exact ⟨fun _ => False, fun _ h => h.elim, fun _ => rfl, Runs.same hwf hd (by simp [builtin, h1]) h2⟩
    · cases h
  ·
    rename_i hc
    have hc : callee = .builtin .append := hc
    rw [hex _ hc]
    change callAppend cx σ argTypes.toList (args.toList.map a.eval) = _ at h
    unfold callAppend at h
    split at h
    · rename_i t xt _ s x _ e1 e2
      have hfpe : fpOf a σ.next σ'.low o = .part (blockOf s ++ blockOf x) (cond (Nat.blt σ'.low σ.next) (blockOf s) []) true := by
        unfold fpOf; rw [ho, hc]
        cases hl : args.toList with
        | nil => rw [hl] at e2; cases e2
        | cons y1 l =>
          cases l with
          | nil => rw [hl] at e2; cases e2
          | cons y2 l2 =>
            rw [hl] at e2
            simp only [List.map_cons, List.cons.injEq] at e2
            obtain ⟨rfl, rfl, _⟩ := e2
            simp only [hl]
      rw [hfpe] at hfp ⊢
      obtain ⟨hf1, _⟩ := hfp
      obtain ⟨W, hW, hg⟩ := opAppend_sound hT hwf hd (hget' 0 t (by rw [e1]; rfl)) (hget' 1 xt (by rw [e1]; rfl)) (hget 0 s (by rw [e2]; rfl)) (hget 1 x (by rw [e2]; rfl)) type
        (hargs s (by rw [e2]; simp)) (hargs x (by rw [e2]; simp)) (fun i hi => hf1 i (List.mem_append.2 (.inl hi))) (fun i hi => hf1 i (List.mem_append.2 (.inr hi))) h
      refine ⟨W, ?_, fun e => (by cases e), ?_⟩
      · intro i hi
        have hk : Kept (vw cx σ) η w (vw cx σ') _ _ W := hg.choose_spec.choose_spec.2.2.2.1
        rw [live_lt hwf hk hi, cond_true]
        exact hW i hi
      · exact hg.runs
    · cases h
  ·
    rename_i hc
    have hc : callee = .builtin .copy := hc
    rw [hex _ hc]
    change callCopy cx σ argTypes.toList (args.toList.map a.eval) = _ at h
    unfold callCopy at h
    split at h
    · rename_i t _ d x _ e1 e2
      have hfpe : fpOf a σ.next σ'.low o = .part (blockOf x) (blockOf d) false := by
        unfold fpOf; rw [ho, hc]
        cases hl : args.toList with
        | nil => rw [hl] at e2; cases e2
        | cons y1 l =>
          cases l with
          | nil => rw [hl] at e2; cases e2
          | cons y2 l2 =>
            rw [hl] at e2
            simp only [List.map_cons, List.cons.injEq] at e2
            obtain ⟨rfl, rfl, _⟩ := e2
            simp only [hl]
      rw [hfpe] at hfp ⊢
      obtain ⟨hf1, hf2⟩ := hfp
      obtain ⟨hn, W, hW, hg⟩ := opCopy_sound hT hwf hd (hget' 0 t (by rw [e1]; rfl)) (hget 0 d (by rw [e2]; rfl)) (hget 1 x (by rw [e2]; rfl)) type
        (hargs d (by rw [e2]; simp)) (hargs x (by rw [e2]; simp)) hf2 hf1 h
      exact ⟨W, hW, fun _ => hn, hg.runs⟩
    · cases h
  ·
    rename_i b hb1 hb2 hb3 hb4 hc
    have hc : callee = .builtin b := hc
    rw [hex _ hc]
    change callMinMax cx σ b _ type (args.toList.map a.eval) = _ at h
    unfold callMinMax at h
    cases hg : (isMinMax b && (args.toList.map a.eval).all plain) with
    | false =>
      rw [hg, cond_false] at h
      cases h
    | true =>
      rw [hg, cond_true] at h
      simp only [Bool.and_eq_true] at hg
      obtain ⟨hv, rfl⟩ := val_inv h
      obtain ⟨h1, h2⟩ := pureN_run w hv
      have hfpe : ∃ x, fpOf a σ'.next σ'.low o = .all x := by
        unfold fpOf; rw [ho, hc]
        cases b <;> first | (simp [isMinMax] at hg; done) | exact ⟨_, rfl⟩
      obtain ⟨x, hx⟩ := hfpe
      rw [hx]
      have eargs : (args.map fun x => ren η (a.eval x)) = (args.toList.map a.eval).toArray := by
        apply Array.ext'
        simp only [Array.toList_map, List.map_map]
        apply List.map_congr_left
        intro y hy
        exact ren_plain η _ (List.all_eq_true.1 hg.2 _ (List.mem_map.2 ⟨y, hy, rfl⟩))
      refine ⟨fun _ => False, fun _ h => h.elim, fun e => (by cases e), Runs.same hwf hd ?_ (plain_ok η v h2)⟩
      rw [eargs, ren_plain η v h2]
      exact h1
  ·
    rename_i f hc
    have hc : callee = .value f := hc
    change callValue cx σ (args.toList.map a.eval) (a.eval f) = _ at h
    unfold callValue at h
    split at h
    · rename_i g first captured hf
      simp only [Option.bind_eq_some_iff] at h
      obtain ⟨fn, hfn, h⟩ := h
      unfold callFn at h
      split at h
      · cases h
      · rename_i hbody
        cases hg : (first.toList ++ args.toList.map a.eval ++ captured.toList).all plain with
        | false =>
          rw [hg, cond_false] at h
          cases h
        | true =>
          rw [hg, cond_true] at h
          obtain ⟨hv, rfl⟩ := val_inv h
          obtain ⟨h1, h2⟩ := pureN_run w hv
          have hfpe : ∃ x, fpOf a σ'.next σ'.low o = .all x := by
            unfold fpOf; rw [ho, hc]
            exact ⟨_, rfl⟩
          obtain ⟨x, hx⟩ := hfpe
          rw [hx]
          refine ⟨fun _ => False, fun _ h => h.elim, fun e => (by cases e), Runs.same hwf hd ?_ (plain_ok η v h2)⟩
          rw [ren_plain η v h2]
          have hall : ∀ y ∈ first.toList ++ args.toList.map a.eval ++ captured.toList, ren η y = y := fun y hy => ren_plain η y (List.all_eq_true.1 hg y hy)
          have e1 : first.map (ren η) = first := by
            apply Array.ext'
            rw [Array.toList_map]
            exact (List.map_congr_left (g := id) fun y hy => hall y (by simp [hy])).trans (List.map_id _)
          have e2 : captured.map (ren η) = captured := by
            apply Array.ext'
            rw [Array.toList_map]
            exact (List.map_congr_left (g := id) fun y hy => hall y (by simp [hy])).trans (List.map_id _)
          have e3 : (args.map fun x => ren η (a.eval x)) = (args.toList.map a.eval).toArray := by
            apply Array.ext'
            simp only [Array.toList_map, List.map_map]
            apply List.map_congr_left
            intro y hy
            exact hall _ (by simp; exact .inr (.inl ⟨y, by simpa using hy, rfl⟩))
          have e4 : execOp (fun x => ren η (a.eval x)) o = callFunc g (first ++ (args.toList.map a.eval).toArray ++ captured) := by
            unfold execOp
            rw [ho]
            subst hc
            show (do let d ← resolve _ _ _; invoke d.target d.args : Sem Next) = _
            unfold resolve
            simp only [hf, ren, renArr_eq, e1, e2, e3, Deferred.ofValue]
            rfl
          rw [e4]
          have e5 : first ++ (args.toList.map a.eval).toArray ++ captured = (first.toList ++ args.toList.map a.eval ++ captured.toList).toArray := by
            apply Array.ext'
            simp
          rw [e5]
          exact h1
    · cases h
  · cases h
theorem opCall_enter {a : Fr} {c : Call} {type : TypeId} {f : FuncId} {all : List Value} (hops : ∀ x ∈ c.operands, ok η (a.eval x)) (o : Oper) (ho : o.op = .call c)
    (hF : FnsOk cx) (h : opCall cx a σ c type = some (.enter f all)) :
    (execOp (fun x => ren η (a.eval x)) o).run cx.P w = .ok (.enter f (all.map (ren η)).toArray) w ∧ (∀ x ∈ all, ok η x) ∧ ∃ fn code, cx.fn.get f = some fn ∧ fn.body = some code := by
  have hval : ∀ {m : Option Value}, val σ m ≠ some (.enter f all) := by
    intro m hm
    unfold val at hm
    split at hm <;> cases hm
  obtain ⟨callee, args, argTypes⟩ := c
  unfold opCall at h
  split at h
  · change callLen cx σ argTypes.toList (args.toList.map a.eval) = _ at h
    unfold callLen at h
    split at h
    · exact absurd h hval
    · cases h
  · change callCap cx σ argTypes.toList (args.toList.map a.eval) = _ at h
    unfold callCap at h
    split at h
    · simp only [Option.bind_eq_some_iff] at h
      obtain ⟨i, _, h⟩ := h
      exact absurd h hval
    · cases h
  · change callAppend cx σ argTypes.toList (args.toList.map a.eval) = _ at h
    unfold callAppend at h
    split at h
    · exact absurd h opAppend_ne
    · cases h
  · change callCopy cx σ argTypes.toList (args.toList.map a.eval) = _ at h
    unfold callCopy at h
    split at h
    · exact absurd h opCopy_ne
    · cases h
  · rename_i b _ _ _ _ hc
    change callMinMax cx σ b _ type (args.toList.map a.eval) = _ at h
    unfold callMinMax at h
    cases hg : (isMinMax b && (args.toList.map a.eval).all plain) with
    | false =>
      rw [hg, cond_false] at h
      cases h
    | true =>
      rw [hg, cond_true] at h
      exact absurd h hval
  · rename_i g hc
    have hc : callee = .value g := hc
    change callValue cx σ (args.toList.map a.eval) (a.eval g) = _ at h
    unfold callValue at h
    split at h
    · rename_i f' first captured hf
      simp only [Option.bind_eq_some_iff] at h
      obtain ⟨fn, hfn, h⟩ := h
      unfold callFn at h
      split at h
      · rename_i code hbody
        simp only [Option.some.injEq, Res.enter.injEq] at h
        obtain ⟨rfl, rfl⟩ := h
        obtain ⟨hget, hbok⟩ := hF f' fn hfn
        have hokg : ok η (a.eval g) := hops g (by simp [Call.operands, hc])
        rw [hf] at hokg
        simp only [ok] at hokg
        have hname : (fn.name == "runtime.NumGoroutine") = false := by
          unfold bodyOk at hbok
          simp only [Bool.and_eq_true, Bool.not_eq_true'] at hbok
          exact hbok.1.2
        refine ⟨?_, ?_, fn, code, hfn, hbody⟩
        · have e4 : execOp (fun x => ren η (a.eval x)) o = callFunc f' (first.map (ren η) ++ (args.map fun x => ren η (a.eval x)) ++ captured.map (ren η)) := by
            unfold execOp
            rw [ho]
            subst hc
            show (do let d ← resolve _ _ _; invoke d.target d.args : Sem Next) = _
            unfold resolve
            simp only [hf, ren, renArr_eq, Deferred.ofValue]
            rfl
          rw [e4]
          simp only [callFunc, Sem.run_bind, run_program, Result.andThen_ok, hget, hname, Bool.false_eq_true, if_false, hbody, Option.isNone_some, Sem.run_pure]
          congr 2
          apply Array.ext'
          simp
        · intro x hx
          simp only [List.mem_append] at hx
          rcases hx with (hx | hx) | hx
          · exact (okA_iff first).1 hokg.1 x hx
          · obtain ⟨y, hy, rfl⟩ := List.mem_map.1 hx
            exact hops y (by simp only [Call.operands]; exact Array.mem_append.2 (.inr (by simpa using hy)))
          · exact (okA_iff captured).1 hokg.2 x hx
      · cases hg : (first.toList ++ args.toList.map a.eval ++ captured.toList).all plain with
        | false =>
          rw [hg, cond_false] at h
          cases h
        | true =>
          rw [hg, cond_true] at h
          exact absurd h hval
    · cases h
  · cases h
end
section
variable {cx : Ctx} (hT : TysOk cx) {D : Nat → Prop} {σ : St} {η : Env} {w : World} (hwf : WF (vw cx σ)) (hd : Den cx.P D (vw cx σ) η w)
include hT hwf hd
theorem symOp_val {a : Fr} {o : Oper} {v : Value} {σ' : St} (hops : ∀ x ∈ o.op.operands, ok η (a.eval x)) (hF : FnsOk cx) (hfp : (fpOf a σ.next σ'.low o).sees D) (h : symOp cx a σ o = some (.val v σ')) :
    ∃ W, (fpOf a σ.next σ'.low o).writes W ∧ ((fpOf a σ.next σ'.low o).makes = false → σ'.next = σ.next) ∧ Runs cx D σ η w ((execOp (fun x => ren η (a.eval x)) o).run cx.P w) v σ' W := by
  obtain ⟨dst, op, type, pos, after, guard⟩ := o
  simp only at hops
  have pure' : ∀ {m : Result Next}, σ' = σ → (fpOf a σ.next σ'.low ⟨dst, op, type, pos, after, guard⟩ = .part [] [] false) → m = .ok (.value (ren η v)) w → ok η v →
      ∃ W, (fpOf a σ.next σ'.low ⟨dst, op, type, pos, after, guard⟩).writes W ∧ ((fpOf a σ.next σ'.low ⟨dst, op, type, pos, after, guard⟩).makes = false → σ'.next = σ.next) ∧ Runs cx D σ η w m v σ' W := by
    intro m e hf hm hv
    subst e
    rw [hf]
    exact ⟨fun _ => False, fun _ h => h.elim, fun _ => rfl, Runs.same hwf hd hm hv⟩
  have make' : ∀ {m : Sem Value}, (fpOf a σ.next σ'.low ⟨dst, op, type, pos, after, guard⟩ = .part [] [] true) → Gives cx D σ η w (m.run cx.P w) v σ' (fun _ => False) →
      ∃ W, (fpOf a σ.next σ'.low ⟨dst, op, type, pos, after, guard⟩).writes W ∧ ((fpOf a σ.next σ'.low ⟨dst, op, type, pos, after, guard⟩).makes = false → σ'.next = σ.next) ∧
        Runs cx D σ η w ((do Pure.pure (.value (← m)) : Sem Next).run cx.P w) v σ' W := by
    intro m hf hg
    rw [hf]
    exact ⟨fun _ => False, fun _ h => h.elim, fun e => (by cases e), hg.runs⟩
  cases op with
  | move x =>
    simp only [symOp, Option.some.injEq, Res.val.injEq] at h
    obtain ⟨rfl, rfl⟩ := h
    exact pure' rfl rfl rfl (hops x (by simp [Op.operands]))
  | assign x =>
    simp only [symOp, Option.some.injEq, Res.val.injEq] at h
    obtain ⟨rfl, rfl⟩ := h
    exact pure' rfl rfl rfl (hops x (by simp [Op.operands]))
  | pick c x y =>
    simp only [symOp] at h
    unfold opPick at h
    split at h
    · rename_i b hb
      simp only [Option.some.injEq, Res.val.injEq] at h
      obtain ⟨rfl, rfl⟩ := h
      refine pure' rfl rfl ?_ ?_
      · cases b <;> simp [execOp, hb, ren, asBool]
      · cases b
        · exact hops y (by simp [Op.operands])
        · exact hops x (by simp [Op.operands])
    · cases h
  | alloc e => exact make' rfl (opAlloc_sound hT hwf hd h)
  | box e x => exact make' rfl (opBox_sound hwf hd (hops x (by simp [Op.operands])) h)
  | build t ps =>
    obtain ⟨hv, rfl⟩ := val_inv h
    have hp : ∀ p ∈ evs a ps, ok η p.2 := by
      intro p hp
      obtain ⟨q, hq, rfl⟩ := List.mem_map.1 hp
      exact hops q.2 (by simp [Op.operands]; exact ⟨q.1, by simpa using hq⟩)
    obtain ⟨h1, h2⟩ := opBuild_sound hT (w := w) hp hv
    refine pure' rfl rfl ?_ h2
    have e : (ps.map fun (i, x) => (i, ren η (a.eval x))) = ((evs a ps).map fun p => (p.1, ren η p.2)).toArray := by
      apply Array.ext'
      simp [evs]
    show (do Pure.pure (.value (← Instr.build t (ps.map fun (i, x) => (i, ren η (a.eval x))))) : Sem Next).run cx.P w = _
    rw [e]
    simp [h1]
  | buildSlice t n ps =>
    have hp : ∀ p ∈ evs a ps, ok η p.2 := by
      intro p hp
      obtain ⟨q, hq, rfl⟩ := List.mem_map.1 hp
      exact hops q.2 (by simp [Op.operands]; exact ⟨q.1, by simpa using hq⟩)
    have hg := opBuildSlice_sound hT hwf hd hp h
    have e : (ps.map fun (i, x) => (i, ren η (a.eval x))) = ((evs a ps).map fun p => (p.1, ren η p.2)).toArray := by
      apply Array.ext'
      simp [evs]
    have : execOp (fun x => ren η (a.eval x)) ⟨dst, .buildSlice t n ps, type, pos, after, guard⟩ = (do Pure.pure (.value (← Instr.buildSlice t n ((evs a ps).map fun p => (p.1, ren η p.2)).toArray))) := by
      rw [← e]
      rfl
    rw [this]
    exact make' rfl hg
  | load t x =>
    have hf : fpOf a σ.next σ'.low ⟨dst, .load t x, type, pos, after, guard⟩ = .part (blockOf (a.eval x)) [] false := rfl
    rw [hf] at hfp ⊢
    have hg := opLoad_sound hT hwf hd (hops x (by simp [Op.operands])) hfp.1 h
    refine ⟨fun _ => False, fun _ h => h.elim, fun _ => ?_, hg.runs⟩
    simp only [symOp, opLoad, Option.bind_eq_bind, Option.bind_eq_some_iff, Option.some.injEq, Res.val.injEq] at h
    obtain ⟨_, _, _, _, _, rfl⟩ := h
    rfl
  | store t x y =>
    have hf : fpOf a σ.next σ'.low ⟨dst, .store t x y, type, pos, after, guard⟩ = .part [] (blockOf (a.eval x)) false := rfl
    rw [hf] at hfp ⊢
    obtain ⟨w', h1, h2, h3, h4, h5⟩ := opStore_sound hT hwf hd (hops x (by simp [Op.operands])) (hops y (by simp [Op.operands])) hfp.2 h
    refine ⟨(· ∈ blockOf (a.eval x)), fun _ h => h, fun _ => ?_, η, w', .skip, ?_, .inr ⟨rfl, h2⟩, by subst h2; simp [undef, ok, okA, okL], h3, h4, h5⟩
    · simp only [symOp, opStore, Option.bind_eq_bind, Option.bind_eq_some_iff, Option.some.injEq, Res.val.injEq] at h
      obtain ⟨_, _, σ1, hs, _, rfl⟩ := h
      exact storeVar_next hs
    · simp [execOp, h1]
  | nilCheck x =>
    simp only [symOp] at h
    have hx := hops x (by simp [Op.operands])
    unfold opNilCheck at h
    split at h
    · rename_i ad he
      simp only [Option.some.injEq, Res.val.injEq] at h
      obtain ⟨rfl, rfl⟩ := h
      rw [he] at hx
      exact pure' rfl rfl (by simp [execOp, he, ren]) hx
    · rename_i f p q he
      simp only [Option.some.injEq, Res.val.injEq] at h
      obtain ⟨rfl, rfl⟩ := h
      rw [he] at hx
      exact pure' rfl rfl (by simp [execOp, he, ren]) hx
    · rename_i b n c he
      simp only [Option.some.injEq, Res.val.injEq] at h
      obtain ⟨rfl, rfl⟩ := h
      rw [he] at hx
      exact pure' rfl rfl (by simp [execOp, he, ren]) hx
    · cases h
  | binOp op t x y yt =>
    obtain ⟨hv, rfl⟩ := val_inv h
    obtain ⟨h1, h2⟩ := opBin_sound hT (η := η) (w := w) hv
    refine pure' rfl rfl ?_ h2
    show (do Pure.pure (.value (← (do eqGuard op t x y (ren η (a.eval x)) (ren η (a.eval y)); binOp op t (ren η (a.eval x)) (ren η (a.eval y)) : Sem Value))) : Sem Next).run cx.P w = _
    rw [Sem.run_bind, h1]
    rfl
  | unOp op t x =>
    simp only [symOp, opUn, Option.bind_eq_bind, Option.bind_eq_some_iff] at h
    obtain ⟨_, hg, h⟩ := h
    have hp := guard'_some hg
    obtain ⟨hv, rfl⟩ := val_inv h
    obtain ⟨h1, h2⟩ := pureV_run w hv
    refine pure' rfl rfl ?_ (plain_ok η v h2)
    rw [ren_plain η v h2]
    simp [execOp, ren_plain η _ hp, h1]
  | convert s d x =>
    simp only [symOp, opConv, Option.bind_eq_bind, Option.bind_eq_some_iff] at h
    obtain ⟨_, hg, h⟩ := h
    have hp := guard'_some hg
    obtain ⟨hv, rfl⟩ := val_inv h
    obtain ⟨h1, h2⟩ := pureV_run w hv
    refine pure' rfl rfl ?_ (plain_ok η v h2)
    rw [ren_plain η v h2]
    simp [execOp, ren_plain η _ hp, h1]
  | makeFunc fn first captured =>
    simp only [symOp, Option.some.injEq, Res.val.injEq] at h
    obtain ⟨rfl, rfl⟩ := h
    refine pure' rfl rfl ?_ ?_
    · simp [execOp, Instr.makeFunc, ren, renArr_eq]
    · simp only [ok, okA_iff]
      refine ⟨fun y hy => ?_, fun y hy => ?_⟩
      · simp only [Array.toList_map, List.mem_map] at hy
        obtain ⟨z, hz, rfl⟩ := hy
        exact hops z (by simp [Op.operands]; exact .inl (by simpa using hz))
      · simp only [Array.toList_map, List.mem_map] at hy
        obtain ⟨z, hz, rfl⟩ := hy
        exact hops z (by simp [Op.operands]; exact .inr (by simpa using hz))
  | makeSlice t l c => exact make' rfl (opMakeSlice_sound hT hwf hd h)
  | slice t x lo hi mx =>
    have hg := opSlice_sound hT hwf hd (hops x (by simp [Op.operands])) h
    have hf : fpOf a σ.next σ'.low ⟨dst, .slice t x lo hi mx, type, pos, after, guard⟩ = .part [] [] false := rfl
    rw [hf]
    refine ⟨fun _ => False, fun _ h => h.elim, fun _ => opSlice_next h, ?_⟩
    have e : execOp (fun x => ren η (a.eval x)) ⟨dst, .slice t x lo hi mx, type, pos, after, guard⟩ =
        (do Pure.pure (.value (← Instr.sliceAt t (ren η (a.eval x)) ((lo.map a.eval).map (ren η)) ((hi.map a.eval).map (ren η)) ((mx.map a.eval).map (ren η))))) := by
      simp only [execOp, Option.map_map]
      rfl
    rw [e]
    exact hg.runs
  | fieldAddr t x k =>
    obtain ⟨hv, rfl⟩ := val_inv h
    obtain ⟨h1, h2⟩ := opFieldAddr_sound hT (w := w) (hops x (by simp [Op.operands])) hv
    exact pure' rfl rfl (by simp [execOp, h1]) h2
  | field t x k =>
    obtain ⟨hv, rfl⟩ := val_inv h
    obtain ⟨h1, h2⟩ := opField_sound hT (w := w) (hops x (by simp [Op.operands])) hv
    exact pure' rfl rfl (by simp [execOp, h1]) h2
  | indexAddr t x ix =>
    obtain ⟨hv, rfl⟩ := val_inv h
    obtain ⟨h1, h2⟩ := opIndexAddr_sound hT (w := w) (hops x (by simp [Op.operands])) hv
    exact pure' rfl rfl (by simp [execOp, h1]) h2
  | index t x ix =>
    obtain ⟨hv, rfl⟩ := val_inv h
    obtain ⟨h1, h2⟩ := opIndex_sound hT (w := w) (hops x (by simp [Op.operands])) hv
    exact pure' rfl rfl (by simp [execOp, h1]) h2
  | extract x k =>
    have hx := hops x (by simp [Op.operands])
    simp only [symOp] at h
    unfold opExtract at h
    split at h
    · rename_i vs he
      obtain ⟨hv, rfl⟩ := val_inv h
      rw [he] at hx
      simp only [ok, okA_iff] at hx
      refine pure' rfl rfl ?_ (hx v (List.mem_of_getElem? hv))
      have hv' : vs[k]? = some v := by simpa using hv
      simp [execOp, he, ren, renArr_eq, Instr.extract, hv']
    · cases h
  | call c => exact opCall_val hT hwf hd hops _ rfl rfl hF hfp h
  | _ => cases h
end
end
end Go.Sym
namespace Go.Sym
open Go
noncomputable section
structure FrOk (a : Fr) (η : Env) (act : Act) : Prop where
  defers : act.defers = []
  size : act.tmps.size = a.n
  small : a.n ≤ 1000000
  val : ∀ t, act.tmps.getD t undef = ren η (orUndef (a.t.get t))
  oks : ∀ t, ok η (orUndef (a.t.get t))
theorem small_deep {i : Nat} (h : i < 1000000) : i + 1 < 2 ^ deep := by
  have : 1000000 + 1 < 2 ^ deep := by decide
  omega
theorem ren_undef (η : Env) : ren η undef = undef := rfl
theorem ok_undef (η : Env) : ok η undef := by simp [undef, ok, okA, okL]
theorem Fr.put_n (a : Fr) (dst : Option Tmp) (v : Value) : (a.put dst v).n = a.n := by
  unfold Fr.put
  cases dst with
  | none => rfl
  | some d => cases h : Nat.ble (Nat.succ d) a.n <;> simp [h]
theorem Fr.get_put {a : Fr} (hs : a.n ≤ 1000000) (d : Nat) (v : Value) (t : Nat) : (a.put (some d) v).t.get t = if t = d ∧ d < a.n then some v else a.t.get t := by
  unfold Fr.put
  cases h : Nat.ble (Nat.succ d) a.n with
  | false =>
    have : ¬ d < a.n := fun e => by
      rw [Nat.ble_eq_true_of_le e] at h
      cases h
    simp [h, this]
  | true =>
    have hlt : d < a.n := Nat.le_of_ble_eq_true h
    simp only [h, cond_true]
    rw [Tr.get_put _ _ _ _ _ (small_deep (by omega))]
    by_cases e : t = d <;> simp [e, hlt]
theorem Fr.get_put_none (a : Fr) (v : Value) : a.put none v = a := rfl
theorem Act.getD_put (act : Act) (d : Nat) (v : Value) (t : Nat) : (act.put (some d) v).tmps.getD t undef = if t = d ∧ d < act.tmps.size then v else act.tmps.getD t undef := by
  show (act.tmps.setIfInBounds d v).getD t undef = _
  simp only [Array.getD_eq_getD_getElem?, Array.getElem?_setIfInBounds]
  by_cases e : d = t
  · subst e
    by_cases hl : d < act.tmps.size
    · simp [hl]
    · simp [hl]
  · rw [if_neg e, if_neg (fun h => e h.1.symm)]
theorem Act.size_put (act : Act) (dst : Option Tmp) (v : Value) : (act.put dst v).tmps.size = act.tmps.size := by
  cases dst with
  | none => rfl
  | some d => simp [Act.put]
theorem FrOk.ext {a : Fr} {η η' : Env} {act : Act} (h : FrOk a η act) (he : Ext η η') : FrOk a η' act :=
  { h with
    val := fun t => by rw [h.val t, ren_ext he _ (h.oks t)]
    oks := fun t => ok_ext he _ (h.oks t) }
theorem FrOk.put {a : Fr} {η η' : Env} {act : Act} (h : FrOk a η act) (he : Ext η η') (dst : Option Tmp) {v : Value} (hv : ok η' v) : FrOk (a.put dst v) η' (act.put dst (ren η' v)) := by
  have h' := h.ext he
  cases dst with
  | none => exact h'
  | some d =>
    refine ⟨h.defers, ?_, ?_, fun t => ?_, fun t => ?_⟩
    · rw [Act.size_put, Fr.put_n]
      exact h.size
    · rw [Fr.put_n]
      exact h.small
    · rw [Act.getD_put, Fr.get_put h.small, h.size]
      split
      · rfl
      · exact h'.val t
    · rw [Fr.get_put h.small]
      split
      · exact hv
      · exact h'.oks t
theorem plain_const {g : Nat} {v : Value} (h : operandOk g (.const v) = true) : plain v = true := h
theorem FrOk.eval {P : Program} {a : Fr} {η : Env} {act : Act} (h : FrOk a η act) (hg : ∀ g, g < P.globals.size → η.blk g = some g) {x : Operand} (hx : operandOk P.globals.size x = true) :
    ok η (a.eval x) ∧ act.eval x = ren η (a.eval x) := by
  cases x with
  | tmp t => exact ⟨h.oks t, h.val t⟩
  | const v =>
    have hp := plain_const hx
    exact ⟨plain_ok η v hp, (ren_plain η v hp).symm⟩
  | global g =>
    have hlt : g < P.globals.size := by simpa [operandOk, Nat.blt_eq] using hx
    have hb := hg g hlt
    refine ⟨?_, ?_⟩
    · show ok η (.pointer (some ⟨g, 0, none⟩))
      rw [ok_pointer, hb]
      rfl
    · show Value.pointer (some ⟨g, 0, none⟩) = ren η (.pointer (some ⟨g, 0, none⟩))
      simp only [ren, Option.map_some, renA_new hb]
  | func f => exact ⟨by simp [Fr.eval, ok, okA, okL], rfl⟩
theorem yielded_eq {ops : Array Oper} {a : Fr} {η : Env} {act : Act} {j : Nat}
    (h : ∀ o d, ops[j]? = some o → o.dst = some d → act.tmps.getD d undef = ren η (a.eval (.tmp d))) : yielded ops act.tmps j = yieldedS ops a j := by
  unfold yielded yieldedS
  have e : ops.toList[j]? = ops[j]? := by simp
  rw [e]
  cases ho : ops[j]? with
  | none => rfl
  | some o =>
    simp only [Option.bind_some]
    cases hd : o.dst with
    | none => rfl
    | some d =>
      simp only [Option.bind_some]
      have := h o d ho hd
      rw [Array.getD_eq_getD_getElem?] at this
      cases hg : act.tmps[d]? with
      | none =>
        rw [hg] at this
        simp only [Option.getD_none] at this
        cases he : a.eval (.tmp d) <;> rw [he] at this <;> simp [ren, undef] at this ⊢
      | some v =>
        rw [hg] at this
        simp only [Option.getD_some] at this
        subst this
        cases he : a.eval (.tmp d) <;> simp [ren]
theorem wanted_eq {ops : Array Oper} {a : Fr} {η : Env} {act : Act} {o : Oper}
    (h : ∀ g want, o.guard = some (g, want) → yielded ops act.tmps g = yieldedS ops a g) : Region.wanted o (yielded ops act.tmps) = wantedS ops a o := by
  unfold Region.wanted wantedS
  cases hg : o.guard with
  | none => rfl
  | some q =>
    obtain ⟨g, want⟩ := q
    simp only [h g want hg]
    cases yieldedS ops a g <;> simp
def edgeFold (acc : Array Nat) (o : Oper) : Nat := o.after.foldl (fun s e => if Region.binds .any e then s ||| 2 ^ e.on ||| acc.getD e.on 0 else s) 0
def befFrom (acc : Array Nat) (l : List Oper) : Array Nat := l.foldl (fun acc o => acc.push (edgeFold acc o)) acc
def bef (l : List Oper) : Array Nat := befFrom #[] l
theorem before_eq (ops : Array Oper) : Region.before ops = bef ops.toList := by
  unfold Region.before bef befFrom
  rw [← Array.foldl_toList]
  rfl
theorem befFrom_size : ∀ (l : List Oper) (acc : Array Nat), (befFrom acc l).size = acc.size + l.length
  | [], acc => rfl
  | o :: l, acc => by
    show (befFrom (acc.push (edgeFold acc o)) l).size = _
    rw [befFrom_size l, Array.size_push, List.length_cons]
    omega
theorem befFrom_stable (k : Nat) : ∀ (l : List Oper) (acc : Array Nat), k < acc.size → (befFrom acc l).getD k 0 = acc.getD k 0
  | [], _, _ => rfl
  | o :: l, acc, h => by
    show (befFrom (acc.push (edgeFold acc o)) l).getD k 0 = _
    rw [befFrom_stable k l _ (by rw [Array.size_push]; omega)]
    simp only [Array.getD_eq_getD_getElem?]
    rw [Array.getElem?_push, if_neg (by omega)]
theorem bef_append (l r : List Oper) : bef (l ++ r) = befFrom (bef l) r := by
  unfold bef befFrom
  rw [List.foldl_append]
theorem bef_size (l : List Oper) : (bef l).size = l.length := by
  have := befFrom_size l #[]
  show (befFrom #[] l).size = _
  simpa using this
theorem bef_stable (l r : List Oper) (k : Nat) (h : k < l.length) : (bef (l ++ r)).getD k 0 = (bef l).getD k 0 := by
  rw [bef_append, befFrom_stable]
  rw [bef_size]
  exact h
theorem bef_at (l : List Oper) (o : Oper) (r : List Oper) : (bef (l ++ o :: r)).getD l.length 0 = edgeFold (bef l) o := by
  rw [bef_append]
  show (befFrom ((bef l).push (edgeFold (bef l) o)) r).getD l.length 0 = _
  rw [befFrom_stable _ _ _ (by rw [Array.size_push, bef_size]; omega)]
  simp only [Array.getD_eq_getD_getElem?]
  rw [Array.getElem?_push, bef_size, if_pos rfl]
  rfl
theorem edge_test (acc : Array Nat) (i : Nat) (l : List Edge) (s : Nat)
    (h : (l.foldl (fun s e => if Region.binds .any e then s ||| 2 ^ e.on ||| acc.getD e.on 0 else s) s).testBit i = true) :
    s.testBit i = true ∨ ∃ e ∈ l, Region.binds .any e = true ∧ (e.on = i ∨ (acc.getD e.on 0).testBit i = true) := by
  induction l generalizing s with
  | nil => exact .inl h
  | cons e l ih =>
    simp only [List.foldl_cons] at h
    rcases ih _ h with h1 | ⟨e', he', h2⟩
    · cases hb : Region.binds .any e with
      | false =>
        rw [hb] at h1
        exact .inl (by simpa using h1)
      | true =>
        rw [hb] at h1
        simp only [if_true, Nat.testBit_or, Bool.or_eq_true, Nat.testBit_two_pow] at h1
        rcases h1 with (h1 | h1) | h1
        · exact .inl h1
        · exact .inr ⟨e, List.mem_cons_self, hb, .inl (by simpa using h1)⟩
        · exact .inr ⟨e, List.mem_cons_self, hb, .inr h1⟩
    · exact .inr ⟨e', List.mem_cons_of_mem _ he', h2⟩
def Back (ops : Array Oper) : Prop := ∀ j o, ops[j]? = some o → ∀ e ∈ o.after, Region.binds .any e = true → e.on < j
theorem before_edge {ops : Array Oper} (hb : Back ops) {j i : Nat} {o : Oper} (ho : ops[j]? = some o) (h : ((Region.before ops).getD j 0).testBit i = true) :
    ∃ e ∈ o.after, Region.binds .any e = true ∧ e.on < j ∧ (e.on = i ∨ ((Region.before ops).getD e.on 0).testBit i = true) := by
  rw [before_eq] at h ⊢
  obtain ⟨hlt, hget⟩ := Array.getElem?_eq_some_iff.1 ho
  have hsplit : ops.toList = ops.toList.take j ++ o :: ops.toList.drop (j + 1) := by
    have hl : j < ops.toList.length := by simpa using hlt
    have h1 := List.take_append_drop j ops.toList
    have h2 : ops.toList[j] = o := by simpa using hget
    rw [List.drop_eq_getElem_cons hl, h2] at h1
    exact h1.symm
  have hlen : (ops.toList.take j).length = j := by
    rw [List.length_take]
    simp
    omega
  have hj : (bef ops.toList).getD j 0 = edgeFold (bef (ops.toList.take j)) o := by
    have := bef_at (ops.toList.take j) o (ops.toList.drop (j + 1))
    rw [← hsplit, hlen] at this
    exact this
  rw [hj] at h
  unfold edgeFold at h
  rw [← Array.foldl_toList] at h
  rcases edge_test _ i _ _ h with h1 | ⟨e, he, h2, h3⟩
  · simp at h1
  · have he' : e ∈ o.after := by simpa using he
    have hlt' := hb j o ho e he' h2
    refine ⟨e, he', h2, hlt', h3.imp id fun h3 => ?_⟩
    have := bef_stable (ops.toList.take j) (o :: ops.toList.drop (j + 1)) e.on (by rw [hlen]; exact hlt')
    rw [← hsplit] at this
    rw [this]
    exact h3
def Shut (ops : Array Oper) (S : Nat → Prop) : Prop := ∀ j o, S j → ops[j]? = some o → ∀ e ∈ o.after, Region.binds .any e = true → S e.on
theorem before_mem {ops : Array Oper} (hb : Back ops) {S : Nat → Prop} (hs : Shut ops S) : ∀ (j i : Nat) (o : Oper), ops[j]? = some o → (∀ e ∈ o.after, Region.binds .any e = true → S e.on) →
    ((Region.before ops).getD j 0).testBit i = true → S i := by
  intro j
  induction j using Nat.strongRecOn with
  | _ j ih =>
    intro i o ho hS h
    obtain ⟨e, he, h2, hlt, h3⟩ := before_edge hb ho h
    rcases h3 with h3 | h3
    · subst h3
      exact hS e he h2
    · have hSe := hS e he h2
      have hlt' : e.on < ops.size := Nat.lt_trans hlt (Array.getElem?_eq_some_iff.1 ho).1
      exact ih e.on hlt i ops[e.on] (by simp [hlt']) (hs e.on _ hSe (by simp [hlt'])) h3
end
end Go.Sym
namespace Go.Sym
open Go
noncomputable section
set_option maxRecDepth 20000
def FP.seen (D : Nat → Prop) : FP → Prop
  | .part rs ws _ => (∀ i ∈ rs, D i) ∧ ∀ i ∈ ws, D i
  | .all _ => ∀ i, D i
def OpSpec (cx : Ctx) (ops : Array Oper) (a : Fr) (σ : St) (o : Oper) (v : Value) (σ' : St) (fp : FP) : Prop :=
  (wantedS ops a o = false ∧ v = undef ∧ σ' = σ ∧ fp = .part [] [] false) ∨
  (wantedS ops a o = true ∧ ∀ (D : Nat → Prop) (η : Env) (w : World) (act : Act) (K : Act → World → Prop) (Q : Exit → Act → World → Prop),
    WF (vw cx σ) → Den cx.P D (vw cx σ) η w → fp.seen D → (∀ x ∈ o.op.operands, ok η (a.eval x) ∧ act.eval x = ren η (a.eval x)) →
    (∀ η' w' W, fp.writes W → (fp.makes = false → σ'.next = σ.next) → WF (vw cx σ') → Kept (vw cx σ) η w (vw cx σ') η' w' W →
      Den cx.P (fun j => D j ∨ σ.next ≤ j) (vw cx σ') η' w' → ok η' v → K (act.put o.dst (ren η' v)) w') →
    o.wp cx.P act w K Q)
structure Trace (cx : Ctx) (ops : Array Oper) (A : Nat → Fr) (S : Nat → St) (V : Nat → Value) (F : Nat → FP) : Prop where
  spec : ∀ (k : Nat) (o : Oper), ops[k]? = some o → OpSpec cx ops (A k) (S k) o (V k) (S (k + 1)) (F k)
  put : ∀ (k : Nat) (o : Oper), ops[k]? = some o → A (k + 1) = (A k).put o.dst (V k)
  conf : ∀ k j, k < ops.size → j < k → (F k).conflict (F j) = true → ((Region.before ops).getD k 0).testBit j = true
  names : ∀ (k : Nat) (o : Oper), ops[k]? = some o → ∀ (rs ws : List Nat) (m : Bool), F k = .part rs ws m → ∀ i, (i ∈ rs ∨ i ∈ ws) → ∃ x ∈ o.op.operands, i ∈ blockOf ((A k).eval x)
  back : Back ops
  guard : ∀ (k : Nat) (o : Oper) (g : Nat) (want : Bool), ops[k]? = some o → o.guard = some (g, want) → ((Region.before ops).getD k 0).testBit g = true ∧ g < k
  pairs : ∀ (j k : Nat) (x y : Oper), ops[j]? = some x → ops[k]? = some y → j < k → pairOk ((Region.before ops).getD k 0) j x y = true
  opnd : ∀ (k : Nat) (o : Oper), ops[k]? = some o → ∀ x ∈ o.op.operands, operandOk cx.P.globals.size x = true
theorem wp_extract {P : Program} {o : Oper} {a : Act} {w : World} {K : Act → World → Prop} (h : o.wp P a w K (fun _ _ _ => False)) : ∃ a' w', K a' w' := by
  unfold Oper.wp Oper.upon at h
  split at h
  · exact ⟨_, _, h⟩
  · exact ⟨_, _, h⟩
  · exact ⟨_, _, h⟩
  · obtain ⟨e, w', fr, hR, _⟩ := h []
    cases e with
    | returned v => exact ⟨_, _, hR⟩
    | panicked c => exact hR.elim
    | outgrown =>
      obtain ⟨_, _, hf⟩ := hR
      exact hf.elim
  · obtain ⟨v, w', hR, _⟩ := h (default : Frame) []
    exact ⟨_, _, hR⟩
  · exact h.elim
  · exact h.elim
structure Stat (cx : Ctx) (σ σ' : St) (fp : FP) (W : Nat → Prop) : Prop where
  wf : WF (vw cx σ)
  wf' : WF (vw cx σ')
  next : σ.next ≤ σ'.next
  nextC : σ.nextC ≤ σ'.nextC
  low : σ'.low ≤ σ.low
  writes : fp.writes W
  makes : fp.makes = false → σ'.next = σ.next
  live : ∀ i, W i → ∃ o, look cx σ i = some o ∧ o.isRo = false
  wlow : ∀ i, W i → σ'.low ≤ i
  same : ∀ i, i < σ.next → ¬ W i → look cx σ' i = look cx σ i
  sameC : ∀ i, i < σ.nextC → σ'.caps.get i = σ.caps.get i
section
variable {cx : Ctx} {ops : Array Oper} {A : Nat → Fr} {S : Nat → St} {V : Nat → Value} {F : Nat → FP} (T : Trace cx ops A S V F)
include T
theorem index_run {η : Env} {w : World} {act : Act} (hwf : WF (vw cx (S 0))) (hd : Den cx.P Every (vw cx (S 0)) η w) (hf : FrOk (A 0) η act) :
    ∀ k, k ≤ ops.size → ∃ η' w' act', WF (vw cx (S k)) ∧ Den cx.P Every (vw cx (S k)) η' w' ∧ FrOk (A k) η' act' ∧
      (∀ j, j < k → ∃ W, Stat cx (S j) (S (j + 1)) (F j) W) := by
  intro k
  induction k with
  | zero => exact fun _ => ⟨η, w, act, hwf, hd, hf, fun j hj => absurd hj (Nat.not_lt_zero j)⟩
  | succ k ih =>
    intro hk
    obtain ⟨η', w', act', h1, h2, h3, h4⟩ := ih (Nat.le_of_succ_le hk)
    have ho : ops[k]? = some ops[k] := by simp [hk]
    rcases T.spec k _ ho with ⟨hw, hv, hS, hF⟩ | ⟨hw, hs⟩
    · refine ⟨η', w', act'.put ops[k].dst (ren η' (V k)), by rw [hS]; exact h1, by rw [hS]; exact h2, ?_, fun j hj => ?_⟩
      · rw [T.put k _ ho]
        exact h3.put (Ext.refl _) _ (by rw [hv]; exact ok_undef _)
      · rcases Nat.lt_or_ge j k with hlt | hge
        · exact h4 j hlt
        · have : j = k := by omega
          subst this
          refine ⟨fun _ => False, ?_⟩
          rw [hS, hF]
          exact ⟨h1, h1, Nat.le_refl _, Nat.le_refl _, Nat.le_refl _, fun _ h => h.elim, fun _ => rfl, fun _ h => h.elim, fun _ h => h.elim, fun _ _ _ => rfl, fun _ _ => rfl⟩
    · have := wp_extract (hs Every η' w' act' (fun act2 w2 => ∃ η2 W, (F k).writes W ∧ ((F k).makes = false → (S (k + 1)).next = (S k).next) ∧ WF (vw cx (S (k + 1))) ∧
          Kept (vw cx (S k)) η' w' (vw cx (S (k + 1))) η2 w2 W ∧ Den cx.P Every (vw cx (S (k + 1))) η2 w2 ∧ FrOk (A (k + 1)) η2 act2) (fun _ _ _ => False) h1 h2
        (by cases F k <;> simp [FP.seen, Every]) (fun x hx => h3.eval h2.glob (T.opnd k _ ho x hx))
        (fun η2 w2 W g1 g2 g3 g4 g5 g6 => ⟨η2, W, g1, g2, g3, g4, g5.sub fun i _ => .inl trivial, by rw [T.put k _ ho]; exact h3.put g4.ext _ g6⟩))
      obtain ⟨act2, w2, η2, W, g1, g2, g3, g4, g5, g6⟩ := this
      refine ⟨η2, w2, act2, g3, g5, g6, fun j hj => ?_⟩
      rcases Nat.lt_or_ge j k with hlt | hge
      · exact h4 j hlt
      · have : j = k := by omega
        subst this
        exact ⟨W, h1, g3, g4.next, g4.nextC, g4.low, g1, g2, g4.live, g4.wlow, g4.same, g4.sameC⟩
end
def touch (S : Nat → St) (F : Nat → FP) (k i : Nat) : Bool :=
  (Nat.ble (S k).next i && Nat.blt i (S (k + 1)).next) ||
  match F k with
  | .part _ ws _ => ws.any (Nat.beq i)
  | .all x => x && Nat.blt i (S k).next
def ver (S : Nat → St) (F : Nat → FP) (L : Nat → Bool) : Nat → Nat → Nat
  | 0, _ => 0
  | k + 1, i => if L k && touch S F k i then k + 1 else ver S F L k i
theorem ver_succ (S : Nat → St) (F : Nat → FP) (L : Nat → Bool) (k i : Nat) : ver S F L (k + 1) i = if L k && touch S F k i then k + 1 else ver S F L k i := rfl
theorem ver_le {S : Nat → St} {F : Nat → FP} {L : Nat → Bool} : ∀ k i, ver S F L k i ≤ k
  | 0, _ => Nat.le_refl _
  | k + 1, i => by
    rw [ver_succ]
    split
    · exact Nat.le_refl _
    · exact Nat.le_succ_of_le (ver_le k i)
theorem ver_skip {S : Nat → St} {F : Nat → FP} {L : Nat → Bool} {j i : Nat} : ∀ n, j ≤ n → (∀ m, j ≤ m → m < n → L m = true → touch S F m i = false) → ver S F L n i = ver S F L j i
  | 0, h, _ => by
    have : j = 0 := by omega
    rw [this]
  | n + 1, h, hn => by
    rcases Nat.lt_or_ge n j with hlt | hge
    · have : j = n + 1 := by omega
      rw [this]
    · rw [ver_succ, if_neg]
      · exact ver_skip n hge fun m h1 h2 => hn m h1 (by omega)
      · intro hc
        simp only [Bool.and_eq_true] at hc
        rw [hn n hge (Nat.lt_succ_self n) hc.1] at hc
        exact absurd hc.2 (by simp)
theorem ver_congr {S : Nat → St} {F : Nat → FP} {L L' : Nat → Bool} {i : Nat} : ∀ n, (∀ m, m < n → touch S F m i = true → L m = L' m) → ver S F L n i = ver S F L' n i
  | 0, _ => rfl
  | n + 1, h => by
    have ih := ver_congr n fun m hm => h m (by omega)
    rw [ver_succ, ver_succ, ih]
    cases ht : touch S F n i with
    | false => simp
    | true => rw [h n (Nat.lt_succ_self n) ht]
def wr (ops : Array Oper) (L : Nat → Bool) : Nat → Nat → Nat
  | 0, _ => 0
  | k + 1, t => if L k && (match (ops[k]?).bind (·.dst) with | some d => Nat.beq d t | none => false) then k + 1 else wr ops L k t
def writesTmp (ops : Array Oper) (k t : Nat) : Bool := match (ops[k]?).bind (·.dst) with | some d => Nat.beq d t | none => false
theorem wr_succ (ops : Array Oper) (L : Nat → Bool) (k t : Nat) : wr ops L (k + 1) t = if L k && writesTmp ops k t then k + 1 else wr ops L k t := rfl
theorem wr_le {ops : Array Oper} {L : Nat → Bool} : ∀ k t, wr ops L k t ≤ k
  | 0, _ => Nat.le_refl _
  | k + 1, t => by
    rw [wr_succ]
    split
    · exact Nat.le_refl _
    · exact Nat.le_succ_of_le (wr_le k t)
theorem wr_skip {ops : Array Oper} {L : Nat → Bool} {j t : Nat} : ∀ n, j ≤ n → (∀ m, j ≤ m → m < n → L m = true → writesTmp ops m t = false) → wr ops L n t = wr ops L j t
  | 0, h, _ => by
    have : j = 0 := by omega
    rw [this]
  | n + 1, h, hn => by
    rcases Nat.lt_or_ge n j with hlt | hge
    · have : j = n + 1 := by omega
      rw [this]
    · rw [wr_succ, if_neg]
      · exact wr_skip n hge fun m h1 h2 => hn m h1 (by omega)
      · intro hc
        simp only [Bool.and_eq_true] at hc
        rw [hn n hge (Nat.lt_succ_self n) hc.1] at hc
        exact absurd hc.2 (by simp)
theorem wr_congr {ops : Array Oper} {L L' : Nat → Bool} {t : Nat} : ∀ n, (∀ m, m < n → writesTmp ops m t = true → L m = L' m) → wr ops L n t = wr ops L' n t
  | 0, _ => rfl
  | n + 1, h => by
    have ih := wr_congr n fun m hm => h m (by omega)
    rw [wr_succ, wr_succ, ih]
    cases ht : writesTmp ops n t with
    | false => simp
    | true => rw [h n (Nat.lt_succ_self n) ht]
def cut (η : Env) (n c : Nat) : Env := ⟨fun i => if i < n then η.blk i else none, fun i => if i < c then η.cap i else none⟩
theorem cut_mono {η : Env} {n n' c c' : Nat} (hn : n ≤ n') (hc : c ≤ c') : Ext (cut η n c) (cut η n' c') := by
  refine ⟨fun i b h => ?_, fun i b h => ?_⟩
  · simp only [cut] at h ⊢
    split at h
    · rw [if_pos (by omega)]; exact h
    · cases h
  · simp only [cut] at h ⊢
    split at h
    · rw [if_pos (by omega)]; exact h
    · cases h
theorem cut_ext {η : Env} {n c : Nat} : Ext (cut η n c) η := by
  refine ⟨fun i b h => ?_, fun i b h => ?_⟩
  · simp only [cut] at h
    split at h
    · exact h
    · cases h
  · simp only [cut] at h
    split at h
    · exact h
    · cases h
theorem cut_of_ext {η η' : Env} {n c : Nat} (h : Ext η η') : Ext (cut η n c) (cut η' n c) := by
  refine ⟨fun i b e => ?_, fun i b e => ?_⟩
  · simp only [cut] at e ⊢
    split at e
    · rename_i hlt
      rw [if_pos hlt]; exact h.blk i b e
    · cases e
  · simp only [cut] at e ⊢
    split at e
    · rename_i hlt
      rw [if_pos hlt]; exact h.cap i b e
    · cases e
def merge (η η' : Env) (lo hi loC hiC : Nat) : Env :=
  ⟨fun i => if lo ≤ i ∧ i < hi then η'.blk i else η.blk i, fun i => if loC ≤ i ∧ i < hiC then η'.cap i else η.cap i⟩
end
end Go.Sym
