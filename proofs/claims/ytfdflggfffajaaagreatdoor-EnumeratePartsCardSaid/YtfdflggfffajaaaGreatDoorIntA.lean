/- Integers, first part: trim, Make, canonical, Negate, Sign, FromInt64, comparison, sums of digits. -/
import Derived.Test.YtfdflggfffajaaaGreatDoorH
import Derived.Test.YtfdflggfffajaaaGreatDoorNum
set_option linter.unusedVariables false
set_option linter.unusedSimpArgs false
set_option linter.unusedSectionVars false
namespace Go.Proofs.YtfdflggfffajaaaGreatDoor
open Go Go.Num Go.Proofs
open Go.Sym hiding val
noncomputable section
attribute [local congr] blk_congr Wpick_congr Wgd_congr Wgd'_congr Wcond_congr Wbin_congr Wun_congr Wconv_congr Wext_congr Wfa_congr Wfd_congr Wia_congr Wld_congr Wlen_congr Wst_congr Wbox_congr WldO_congr WstO_congr Wmk_congr Wsl_congr Wap_congr Wbs_congr Wbd_congr Wfn_congr C_congr
section
theorem len_33 {g : Fm} {σ : St} {K : Value → St → Prop} {x : Operand} {ty' : TypeId} : Wop cxH ty' (.call { callee := .builtin .len, args := #[x], argTypes := #[33] }) g σ K = Wlen (ev g x) fun v => K v σ :=
  Wop_len ty_33 rfl rfl rfl
attribute [go_sem ↓] len_33
theorem wr64 {a : Int} (h1 : -9223372036854775808 ≤ a) (h2 : a < 9223372036854775808) : IntKind.i64.wrap a = a := by
  unfold IntKind.wrap
  simp [IntKind.bits, IntKind.signed]
  omega
theorem wr64n {a : Int} {n : Nat} (h : a = n) (h2 : n < 9223372036854775808) : IntKind.i64.wrap a = (n : Int) := by
  rw [h, wr64 (by omega) (by omega)]
theorem wr32 {a : Nat} : IntKind.u32.wrap (a : Int) = ((a % 4294967296 : Nat) : Int) := by
  unfold IntKind.wrap
  simp [IntKind.bits, IntKind.signed]
theorem wru64 {a : Nat} : IntKind.u64.wrap (a : Int) = ((a % 18446744073709551616 : Nat) : Int) := by
  unfold IntKind.wrap
  simp [IntKind.bits, IntKind.signed]
section
variable {σ : St} {b : Option Addr} {n c : Nat} {l : List Nat} {i : Nat} {k : IntKind} {K : Value → Prop}
theorem ia_33 (h : Dg cxH σ b n c l) (hi : i < n) : Wia cxH 33 (.slice b n c) (.int k (i : Int)) K = K (.pointer (some (elAt b i))) := by
  have := Wia_sl (k := k) (K := K) ty_33 rfl ty_136 h.sl hi
  rw [this]
  show K (.pointer (some (elAt b (i * 1)))) = _
  rw [Nat.mul_one]
theorem ld_136 (h : Dg cxH σ b n c l) {x : Nat} (hx : l[i]? = some x) : Wld cxH σ 136 (.pointer (some (elAt b i))) K = K (.int .u32 (x : Int)) :=
  Wld_el ty_136 rfl h.sl (v := dig x) (by rw [List.getElem?_map, hx]; rfl)
theorem sl_33 {m : Nat} {K : Value → St → Prop} (h : Dg cxH σ b n c l) (hm : m ≤ n) : Wsl cxH σ 33 (.slice b n c) none (some (.int k (m : Int))) none K = K (.slice b m c) σ :=
  Wsl_to ty_33 rfl ty_136 h.sl hm
theorem sc_33 {m : Nat} {k' : IntKind} {K : Value → St → Prop} (h : Dg cxH σ b n c l) (hm : m ≤ n) : Wsl cxH σ 33 (.slice b n c) none (some (.int k (m : Int))) (some (.int k' (m : Int))) K = K (.slice b m m) σ :=
  Wsl_cap ty_33 rfl ty_136 h.sl hm
end
section
variable {σ : St} {off p : Nat} {K : Value → Prop} {o : SObj} {cs : List Value} {e : TypeId} {v : Value}
theorem cells_row : (SObj.row cs e).cells = cs := Eq.trans rfl rfl
theorem lo_33 (h : o.cells[off]? = some v) : Wo (loadO cxH 33 off o) K = K v := by
  have : loadO cxH 33 off o = some v := by unfold loadO; rw [ty_33]; exact h
  rw [this, Wo_some]
theorem lo_4 (h : o.cells[off]? = some v) : Wo (loadO cxH 4 off o) K = K v := by
  have : loadO cxH 4 off o = some v := by unfold loadO; rw [ty_4]; exact h
  rw [this, Wo_some]
theorem lo_35 {x y : Value} : Wo (loadO cxH 35 0 (.row [x, y] e)) K = K (.agg #[x, y]) := by
  have : loadO cxH 35 0 (.row [x, y] e) = some (.agg #[x, y]) := by unfold loadO; rw [ty_35]; rfl
  rw [this, Wo_some]
theorem lo_37 {x y z w : Value} : Wo (loadO cxH 37 0 (.row [x, y, z, w] e)) K = K (.agg #[x, y, z, w]) := by
  have : loadO cxH 37 0 (.row [x, y, z, w] e) = some (.agg #[x, y, z, w]) := by unfold loadO; rw [ty_37]; rfl
  rw [this, Wo_some]
theorem lo_4_0 {x : Value} {r : List Value} : Wo (loadO cxH 4 0 (.row (x :: r) e)) K = K x := lo_4 rfl
theorem lo_33_1 {x y : Value} {r : List Value} : Wo (loadO cxH 33 1 (.row (x :: y :: r) e)) K = K y := lo_33 rfl
theorem st_35 {K : Value → St → Prop} {x y : Value} {neg : Bool} {b : Option Addr} {n c : Nat} : WstO cxH σ 35 p 0 (some (.row [x, y] e)) (.agg #[.bool neg, .slice b n c]) K = K undef (σ.set p (.row [.bool neg, .slice b n c] e)) :=
  WstO_of (by unfold storeO; rw [ty_35]; rfl)
theorem fa_35_0 {b : Nat} : Wfa cxH 35 0 (.pointer (some ⟨b, 0, none⟩)) K = K (.pointer (some ⟨b, 0, none⟩)) := by
  have : opFieldAddr cxH 35 (.pointer (some ⟨b, 0, none⟩)) 0 = some (.pointer (some ⟨b, 0, none⟩)) := by unfold opFieldAddr; rw [ty_35]; rfl
  unfold Wfa
  rw [this, Wo_some]
theorem fa_35_1 {b : Nat} : Wfa cxH 35 1 (.pointer (some ⟨b, 0, none⟩)) K = K (.pointer (some ⟨b, 1, none⟩)) := by
  have : opFieldAddr cxH 35 (.pointer (some ⟨b, 0, none⟩)) 1 = some (.pointer (some ⟨b, 1, none⟩)) := by unfold opFieldAddr; rw [ty_35]; rfl
  unfold Wfa
  rw [this, Wo_some]
theorem al_35 {K : Value → St → Prop} : Wal cxH σ 35 K = K (.pointer (some ⟨σ.next, 0, none⟩)) (σ.add (.row [.bool false, .slice none 0 0] 35)) := Wal_of ty_35 rfl
theorem al_37 {K : Value → St → Prop} : Wal cxH σ 37 K = K (.pointer (some ⟨σ.next, 0, none⟩)) (σ.add (.row [.bool false, .slice none 0 0, .bool false, .slice none 0 0] 37)) := Wal_of ty_37 rfl
theorem bd_35_n : Wbd cxH 35 [] K = K (.agg #[.bool false, .slice none 0 0]) := by
  have : opBuild cxH 35 [] = some (.agg #[.bool false, .slice none 0 0]) := by
    unfold opBuild
    rw [ty_35]
    simp only [Option.bind_eq_bind, Option.bind_some]
    rfl
  unfold Wbd
  rw [this, Wo_some]
theorem bd_35 {neg : Bool} {b : Option Addr} {n c : Nat} : Wbd cxH 35 [(0, .bool neg), (1, .slice b n c)] K = K (.agg #[.bool neg, .slice b n c]) := by
  have : opBuild cxH 35 [(0, .bool neg), (1, .slice b n c)] = some (.agg #[.bool neg, .slice b n c]) := by
    unfold opBuild
    rw [ty_35]
    simp only [Option.bind_eq_bind, Option.bind_some]
    rfl
  unfold Wbd
  rw [this, Wo_some]
end
end
section
theorem digs_one (l : List Nat) : (l.map dig).all (·.oneCell') = true := by
  rw [List.all_eq_true]
  intro x hx
  obtain ⟨y, _, rfl⟩ := List.mem_map.1 hx
  rfl
theorem ap_33 {σ : St} {b : Option Addr} {n c : Nat} {l : List Nat} {K : Value → St → Prop} (h : Dg cxH σ b n c l) (hn : n ≤ 1000000)
    (hK : ∀ b' c' σ', Dg cxH σ' b' n c' l → Ext' σ σ' → K (.slice b' n c') σ') : Wap cxH σ 33 33 (.slice none 0 0) (.slice b n c) K := by
  have hl := h.len
  have hnews : newsOf cxH σ 1 (.int .u32 0) (TI.of Tryz.t33 Tryz.t33).desc (.slice b n c) = some (n, l.map dig) := by
    show newsOf cxH σ 1 (.int .u32 0) (.slice 136) (.slice b n c) = _
    cases b with
    | none =>
      have h0 := (h.sl.nil rfl).1
      subst h0
      have : l = [] := List.eq_nil_of_length_eq_zero hl.symm
      subst this
      rfl
    | some a =>
      by_cases h0 : n = 0
      · subst h0
        have : l = [] := List.eq_nil_of_length_eq_zero hl.symm
        subst this
        rfl
      have hb0 : Nat.beq n 0 = false := Bool.eq_false_iff.2 fun e => h0 (Nat.eq_of_beq_eq_true e)
      have := load_cells (cx := cxH) (i := 0) (m := n * 1) h.sl (fun e => by cases e) (by omega) (by omega)
      have e : elAt (some a) 0 = a := by
        show a.add 0 = a
        simp [Addr.add]
      rw [e] at this
      show cond (Nat.beq n 0) _ ((Sym.loadCells cxH σ a (n * 1)).bind _) = _
      rw [hb0, cond_false, this]
      have hlen := h.sl.len
      show some (n, ((l.map dig).drop 0).take (n * 1)) = _
      rw [List.drop_zero, List.take_of_length_le (by omega)]
  have hle : Nat.ble (0 + n) 1000000 = true := Nat.ble_eq_true_of_le (by omega)
  have key : opAppend cxH σ 33 33 (.slice none 0 0) (.slice b n c) = appNone σ 136 1 0 0 (.slice none 0 0) n (l.map dig) := by
    unfold opAppend
    rw [ty_33]
    simp only [Option.bind_eq_bind, Option.bind_some]
    show ((ty cxH 136).bind fun ei => (some (TI.of Tryz.t33 Tryz.t33)).bind fun xi => ei.zero.bind fun z => appElem cxH σ 136 ei xi z none 0 0 (.slice none 0 0) (.slice b n c)) = _
    rw [ty_136]
    show appElem cxH σ 136 (TI.of Tryz.t136 Tryz.t136) (TI.of Tryz.t33 Tryz.t33) (.int .u32 0) none 0 0 (.slice none 0 0) (.slice b n c) = _
    unfold appElem
    show cond true ((newsOf cxH σ 1 (.int .u32 0) (TI.of Tryz.t33 Tryz.t33).desc (.slice b n c)).bind _) none = _
    rw [hnews, cond_true]
    show cond ((l.map dig).all (·.oneCell') && Nat.ble (0 + n) 1000000) _ none = _
    rw [digs_one, hle]
    rfl
  unfold Wap
  rw [key]
  by_cases h0 : n = 0
  · subst h0
    have : l = [] := List.eq_nil_of_length_eq_zero hl.symm
    subst this
    exact ⟨_, σ, rfl, hK none 0 σ ⟨SlW.none, fun _ h => by cases h⟩ (Ext'.refl σ)⟩
  · have hb : Nat.beq n 0 = false := by
      cases hb : Nat.beq n 0
      · rfl
      · exact absurd (Nat.eq_of_beq_eq_true hb) h0
    have hg : appNone σ 136 1 0 0 (.slice none 0 0) n (l.map dig) = grown σ 136 1 n (l.map dig) := by
      show cond true (cond (Nat.beq n 0) _ (grown σ 136 1 n (l.map dig))) none = _
      rw [hb, cond_true, cond_false]
    refine ⟨_, _, hg, ?_⟩
    · have hE : Ext' σ { next := σ.next + 1, nextC := σ.nextC + 1, mem := σ.mem.set σ.next (some (.own (.opn (l.map dig) 136 1 σ.nextC))), caps := σ.caps.set σ.nextC (some n), low := σ.low } :=
        ⟨Nat.le_succ _, Nat.le_succ _, Nat.min_le_left _ _, fun i hi => by
          show (σ.mem.set σ.next _).get i = _
          rw [Tr.get_set, if_neg (by omega)], fun k hk => by
          show (σ.caps.set σ.nextC _).get k = _
          rw [Tr.get_set, if_neg (by omega)], fun h => by show σ.low ≤ σ.next + 1; omega⟩
      refine hK _ _ _ ⟨⟨by simpa using hl.symm, ?_, (fun e => by cases e), ?_⟩, h.lt⟩ hE
      · refine .inr ⟨by omega, ?_, n, ?_, Nat.le_refl n⟩
        · show capBase + σ.nextC - capBase < σ.nextC + 1
          omega
        · show (σ.caps.set σ.nextC (some n)).get (capBase + σ.nextC - capBase) = _
          rw [Tr.get_set, if_pos (by omega)]
      · intro a ha
        injection ha with ha
        subst ha
        refine ⟨Nat.lt_succ_self _, fun _ => ⟨rfl, .opn (l.map dig) 136 1 σ.nextC, ?_, by show 0 + n * 1 ≤ (l.map dig).length; simp; omega, ?_⟩⟩
        · show ((σ.mem.set σ.next _).get σ.next).bind _ = _
          rw [Tr.get_set, if_pos rfl]
          rfl
        · show ((l.map dig).drop 0).take (n * 1) = _
          rw [List.drop_zero, List.take_of_length_le (by simp; omega)]
def IsInt (σ : St) (v : Value) (z : Int) : Prop := ∃ b n c, v = .agg #[.bool (decide (z < 0)), .slice b n c] ∧ Dg cxH σ b n c (digits z.natAbs)
theorem dg_nil (σ : St) : Dg cxH σ none 0 0 [] := ⟨SlW.none, fun x h => by cases h⟩
theorem isInt_zero (σ : St) : IsInt σ (.agg #[.bool false, .slice none 0 0]) 0 := ⟨none, 0, 0, rfl, by
  rw [show (0 : Int).natAbs = 0 from rfl, digits_zero]
  exact dg_nil σ⟩
theorem dg_low {σ : St} {a : Nat} {b : Option Addr} {n c : Nat} {l : List Nat} (h : Dg cxH σ b n c l) : Dg cxH { σ with low := a } b n c l := ⟨⟨h.sl.len, h.sl.cap, h.sl.nil, h.sl.at'⟩, h.lt⟩
theorem dg_none {σ σ' : St} {n c : Nat} {l : List Nat} (h : Dg cxH σ none n c l) : Dg cxH σ' none n c l := by
  obtain ⟨h1, h2⟩ := h.sl.nil rfl
  have := h.len
  subst h1 h2
  have : l = [] := List.eq_nil_of_length_eq_zero this.symm
  subst this
  exact dg_nil σ'
theorem dg_back {σ σ' : St} {v : Value} {b : Option Addr} {n c : Nat} {l : List Nat} (h : Dg cxH σ' b n c l) (hv : plain v = true → b = none) : Dg cxH (back σ v σ') b n c l := by
  unfold back
  cases hp : plain v with
  | true =>
    have := hv hp
    subst this
    exact dg_none h
  | false => exact dg_low h
theorem dg_back1 {σ σ' : St} {b : Option Addr} {n c : Nat} {l : List Nat} (h : Dg cxH σ' b n c l) : Dg cxH (back σ (.slice b n c) σ') b n c l :=
  dg_back h fun e => by
    simp only [plain, Bool.and_eq_true] at e
    cases b with
    | none => rfl
    | some a => simp at e
theorem isInt_back {σ σ' : St} {v : Value} {z : Int} (h : IsInt σ' v z) : IsInt (back σ v σ') v z := by
  obtain ⟨b, n, c, rfl, h⟩ := h
  refine ⟨b, n, c, rfl, dg_back h fun e => ?_⟩
  simp only [plain, plainA, plainL, Bool.and_eq_true] at e
  cases b with
  | none => rfl
  | some a => simp at e
theorem IsInt.ext {σ σ' : St} {v : Value} {z : Int} (h : IsInt σ v z) (e : Ext' σ σ') : IsInt σ' v z := by
  obtain ⟨b, n, c, rfl, h⟩ := h
  exact ⟨b, n, c, rfl, h.ext e⟩
theorem sval_abs (neg : Bool) (l : List Nat) : (sval neg l).natAbs = val l := by
  unfold sval
  cases neg <;> simp
theorem isInt_of {σ : St} {neg : Bool} {l : List Nat} {b : Option Addr} {n c : Nat} (h : Dg cxH σ b n c (trimmed l)) (hl : ∀ x ∈ l, x < B) (h0 : nz l ≠ 0) : IsInt σ (.agg #[.bool neg, .slice b n c]) (sval neg l) := by
  refine ⟨b, n, c, ?_, ?_⟩
  · have : decide (sval neg l < 0) = neg := by
      have hv : val l ≠ 0 := fun e => h0 (by
        have := digits_val l hl
        rw [e, digits_zero] at this
        rw [← trimmed_length, ← this]
        rfl)
      unfold sval
      cases neg
      · simp
      · simp
        omega
    rw [this]
  · rw [sval_abs, digits_val l hl]
    exact h
theorem trim_ok {σ : St} {b : Option Addr} {n c : Nat} {l : List Nat} (h : Dg cxH σ b n c l) (hn : n ≤ 1000000) : C cxH 139 [.slice b n c] σ fun v σ' => v = .slice b (nz l) c ∧ Ext' σ σ' := by
  have hl := h.len
  have h' := h.ext (Ext'.to_fresh σ)
  refine C_in (N := 21) (rs := [.tmp 2]) fn_139 (by rfl) (by rfl) (by rfl) (by rfl) (by rfl) (by rfl) ?_
  simp (disch := first | exact sideD | fail) only [go_sem]
  refine Wloop_inv (fun m g σ' => m ≤ n ∧ nz l ≤ m ∧ g 0 = .slice b n c ∧ g 3 = .int .i64 (m : Int) ∧ σ' = σ.fresh) n (by rfl) ⟨Nat.le_refl n, by have := nz_le l; omega, rfl, rfl, rfl⟩ ?_
  rintro m g _ ⟨hm, hz, g0, g3, rfl⟩
  by_cases hm0 : m = 0
  · have e : ((0 : Int) < (m : Int)) = False := eq_false (by omega)
    simp (disch := first | exact sideD | fail) only [go_sem, g0, g3, e, sl_33 h' hm]
    exact ⟨by rw [show nz l = m by omega], back_ext (Ext'.refl _)⟩
  · obtain ⟨j, rfl⟩ : ∃ j, m = j + 1 := ⟨m - 1, by omega⟩
    have e : ((0 : Int) < ((j + 1 : Nat) : Int)) = True := eq_true (by omega)
    have e2 : IntKind.i64.wrap (((j + 1 : Nat) : Int) - 1) = (j : Int) := wr64n (by omega) (by omega)
    obtain ⟨x, hx⟩ : ∃ x, l[j]? = some x := ⟨l[j]'(by omega), List.getElem?_eq_getElem _⟩
    simp (disch := first | exact sideD | fail) only [go_sem, g0, g3, e, e2, ia_33 h', ld_136 h' hx]
    refine Wcond_if (fun hx0 => ?_) (fun hx0 => ?_)
    · simp (disch := first | exact sideD | fail) only [go_sem, g0, g3, e2]
      exact ⟨j, Nat.lt_succ_self j, by omega, nz_last l j hz (by rw [hx, show x = 0 by omega]), by simp (disch := first | exact sideD | fail) only [go_sem, g0], by simp (disch := first | exact sideD | fail) only [go_sem], trivial⟩
    · simp (disch := first | exact sideD | fail) only [go_sem, g0, g3, e, sl_33 h' hm]
      exact ⟨by rw [nz_eq l j x hz hx (by omega)], back_ext (Ext'.refl _)⟩
theorem clone_ok {σ : St} {b : Option Addr} {n c : Nat} {l : List Nat} (h : Dg cxH σ b n c l) (hn : n ≤ 1000000) : C cxH 191 [.slice b n c] σ fun v σ' => ∃ b' c', v = .slice b' n c' ∧ Dg cxH σ' b' n c' l ∧ Ext' σ σ' := by
  have h' := h.ext (Ext'.to_fresh σ)
  refine C_in (N := 5) (rs := [.tmp 2]) fn_191 (by rfl) (by rfl) (by rfl) (by rfl) (by rfl) (by rfl) ?_
  simp (disch := first | exact sideD | fail) only [go_sem]
  refine ap_33 h' hn fun b' c' σ' hd he => ?_
  simp (disch := first | exact sideD | fail) only [go_sem]
  exact ⟨b', c', rfl, dg_back1 hd, back_ext he⟩
def noInt : Value → Bool
  | .int _ _ => false
  | _ => true
theorem dg_set {σ : St} {b : Option Addr} {n c : Nat} {l : List Nat} (h : Dg cxH σ b n c l) {i : Nat} {cs cs' : List Value} {e e' : TypeId} (hc : Sym.look cxH σ i = some (.row cs e)) (hn : cs.all noInt = true) (hlen : cs'.length = cs.length) :
    Dg cxH (σ.set i (.row cs' e')) b n c l := by
  refine ⟨⟨h.sl.len, h.sl.cap, h.sl.nil, fun a ha => ?_⟩, h.lt⟩
  obtain ⟨h2, k⟩ := h.sl.at' a ha
  refine ⟨h2, fun hn0 => ?_⟩
  obtain ⟨h1, o, h3, h4, h5⟩ := k hn0
  by_cases hi : a.block = i
  · subst hi
    rw [show lookW cxH σ.vw a.block = _ from hc] at h3
    injection h3 with h3
    subst h3
    have hl : l = [] := by
      cases l with
      | nil => rfl
      | cons x r =>
        have hm : dig x ∈ (SObj.row cs e).cells := List.mem_of_mem_drop (List.mem_of_mem_take (by rw [h5]; exact List.mem_cons_self))
        have := List.all_eq_true.1 hn _ hm
        cases this
    have h0 : n = 0 := by rw [h.len, hl]; rfl
    omega
  · exact ⟨h1, o, (look_set_ne hi).trans h3, h4, h5⟩
theorem isInt_set {σ : St} {v : Value} {z : Int} (h : IsInt σ v z) {i : Nat} {cs cs' : List Value} {e e' : TypeId} (hc : Sym.look cxH σ i = some (.row cs e)) (hn : cs.all noInt = true) (hlen : cs'.length = cs.length) : IsInt (σ.set i (.row cs' e')) v z := by
  obtain ⟨b, n, c, rfl, h⟩ := h
  exact ⟨b, n, c, rfl, dg_set h hc hn hlen⟩
theorem sval_zero {neg : Bool} {l : List Nat} (h : nz l = 0) : sval neg l = 0 := by
  unfold sval
  rw [nz_zero_val l h]
  cases neg <;> rfl
theorem make_ok {σ : St} {neg : Bool} {b : Option Addr} {n c : Nat} {l : List Nat} (h : Dg cxH σ b n c l) (hn : n ≤ 1000000) : C cxH 92 [.bool neg, .slice b n c] σ fun v σ' => IsInt σ' v (sval neg l) ∧ Ext' σ σ' := by
  have hl := h.len
  have hnz := nz_le l
  refine C_in (N := 15) (rs := [.cell 4 35]) fn_92 (by rfl) (by rfl) (by rfl) (by rfl) (by rfl) (by rfl) ?_
  simp (disch := first | exact sideD | fail) only [go_sem, al_35]
  have e0 : Ext' σ.fresh (σ.fresh.add (.row [.bool false, .slice none 0 0] 35)) := (Ext'.refl _).add _
  refine (trim_ok ((h.ext (Ext'.to_fresh σ)).ext e0) hn).mono ?_
  rintro _ σ1 ⟨rfl, e1⟩
  have hc : Sym.look cxH σ1 σ.next = some (.row [.bool false, .slice none 0 0] 35) := (e1.look (Nat.lt_succ_self _)).trans (look_add rfl)
  by_cases h0 : nz l = 0
  · have e : ((nz l : Int) = 0) = True := eq_true (by omega)
    simp (disch := first | exact sideD | fail) only [go_sem, e, bd_35_n, hc, st_35, lo_35]
    refine ⟨?_, back_ext ((e0.trans e1).set _ (Nat.le_refl _))⟩
    rw [sval_zero h0]
    exact isInt_back (isInt_zero _)
  · have e : ((nz l : Int) = 0) = False := eq_false (by omega)
    simp (disch := first | exact sideD | fail) only [go_sem, e]
    have hd := ((h.ext (Ext'.to_fresh σ)).ext e0).ext e1
    refine ap_33 (hd.take (m := nz l) (by omega)) (by omega) fun b' c' σ2 hd2 e2 => ?_
    have hc2 := (e2.look (i := σ.next) (by have := e1.next; rw [add_next, fresh_next] at this; omega)).trans hc
    simp (disch := first | exact sideD | fail) only [go_sem, bd_35, hc2, st_35, lo_35]
    exact ⟨isInt_back (isInt_set (isInt_of hd2 h.lt h0) hc2 rfl rfl), back_ext (((e0.trans e1).trans e2).set _ (Nat.le_refl _))⟩
theorem magnitude_ok {σ : St} {neg : Bool} {b : Option Addr} {n c : Nat} {l : List Nat} (h : Dg cxH σ b n c l) (hn : n ≤ 1000000) : C cxH 145 [.agg #[.bool neg, .slice b n c]] σ fun v σ' => v = .slice b (nz l) c ∧ Ext' σ σ' := by
  have hl := h.len
  have hnz := nz_le l
  refine C_in (N := 24) (rs := [.tmp 2]) fn_145 (by rfl) (by rfl) (by rfl) (by rfl) (by rfl) (by rfl) ?_
  simp (disch := first | exact sideD | fail) only [go_sem, List.toList_toArray, fa_35_1, lo_33_1]
  have e0 : Ext' σ.fresh (σ.fresh.add (.row [.bool neg, .slice b n c] 35)) := (Ext'.refl _).add _
  have h' := (h.ext (Ext'.to_fresh σ)).ext e0
  refine Wloop_inv (fun m g σ' => m ≤ n ∧ nz l ≤ m ∧ g 3 = .slice b m c ∧ σ' = σ.fresh.add (.row [.bool neg, .slice b n c] 35)) n (by rfl) ⟨Nat.le_refl n, by omega, rfl, rfl⟩ ?_
  rintro m g _ ⟨hm, hz, g3, rfl⟩
  have h2 := h'.take hm
  by_cases hm0 : m = 0
  · have e : ((0 : Int) < (m : Int)) = False := eq_false (by omega)
    simp (disch := first | exact sideD | fail) only [go_sem, g3, e]
    exact ⟨by rw [show nz l = m by omega], back_ext e0⟩
  · obtain ⟨j, rfl⟩ : ∃ j, m = j + 1 := ⟨m - 1, by omega⟩
    have e : ((0 : Int) < ((j + 1 : Nat) : Int)) = True := eq_true (by omega)
    have e2 : IntKind.i64.wrap (((j + 1 : Nat) : Int) - 1) = (j : Int) := wr64n (by omega) (by omega)
    obtain ⟨x, hx⟩ : ∃ x, l[j]? = some x := ⟨l[j]'(by omega), List.getElem?_eq_getElem _⟩
    have hx2 : (l.take (j + 1))[j]? = some x := by rw [List.getElem?_take_of_lt (Nat.lt_succ_self j), hx]
    simp (disch := first | exact sideD | fail) only [go_sem, g3, e, e2, ia_33 h2, ld_136 h2 hx2]
    refine Wcond_if (fun hx0 => ?_) (fun hx0 => ?_)
    · simp (disch := first | exact sideD | fail) only [go_sem, g3, e2, sl_33 h2 (Nat.le_succ j)]
      exact ⟨j, Nat.lt_succ_self j, by omega, nz_last l j hz (by rw [hx, show x = 0 by omega]), by simp (disch := first | exact sideD | fail) only [go_sem], trivial⟩
    · simp (disch := first | exact sideD | fail) only [go_sem, g3]
      exact ⟨by rw [nz_eq l j x hz hx (by omega)], back_ext e0⟩
theorem canonical_ok {σ : St} {neg : Bool} {b : Option Addr} {n c : Nat} {l : List Nat} (h : Dg cxH σ b n c l) (hn : n ≤ 1000000) : C cxH 146 [.bool neg, .slice b n c] σ fun v σ' => IsInt σ' v (sval neg l) ∧ Ext' σ σ' := by
  have hl := h.len
  have hnz := nz_le l
  refine C_in (N := 34) (rs := [.cell 4 35]) fn_146 (by rfl) (by rfl) (by rfl) (by rfl) (by rfl) (by rfl) ?_
  simp (disch := first | exact sideD | fail) only [go_sem, al_35]
  have e0 : Ext' σ.fresh (σ.fresh.add (.row [.bool false, .slice none 0 0] 35)) := (Ext'.refl _).add _
  have h' := (h.ext (Ext'.to_fresh σ)).ext e0
  have hc : Sym.look cxH (σ.fresh.add (.row [.bool false, .slice none 0 0] 35)) σ.next = some (.row [.bool false, .slice none 0 0] 35) := look_add rfl
  refine Wloop_inv (fun m g σ' => m ≤ n ∧ nz l ≤ m ∧ g 0 = .bool neg ∧ g 1 = .slice b m c ∧ g 4 = .pointer (some ⟨σ.next, 0, none⟩) ∧ σ' = σ.fresh.add (.row [.bool false, .slice none 0 0] 35)) n (by rfl)
    ⟨Nat.le_refl n, by omega, rfl, rfl, rfl, rfl⟩ ?_
  rintro m g _ ⟨hm, hz, g0, g1, g4, rfl⟩
  have h2 := h'.take hm
  by_cases hm0 : m = 0
  · have e : ((0 : Int) < (m : Int)) = False := eq_false (by omega)
    have e3 : ((m : Int) = 0) = True := eq_true (by omega)
    simp (disch := first | exact sideD | fail) only [go_sem, g0, g1, g4, e, e3, bd_35_n, st_35, lo_35]
    refine ⟨?_, back_ext (e0.set _ (Nat.le_refl _))⟩
    rw [sval_zero (by omega)]
    exact isInt_back (isInt_zero _)
  · obtain ⟨j, rfl⟩ : ∃ j, m = j + 1 := ⟨m - 1, by omega⟩
    have e : ((0 : Int) < ((j + 1 : Nat) : Int)) = True := eq_true (by omega)
    have e3 : (((j + 1 : Nat) : Int) = 0) = False := eq_false (by omega)
    have e2 : IntKind.i64.wrap (((j + 1 : Nat) : Int) - 1) = (j : Int) := wr64n (by omega) (by omega)
    obtain ⟨x, hx⟩ : ∃ x, l[j]? = some x := ⟨l[j]'(by omega), List.getElem?_eq_getElem _⟩
    have hx2 : (l.take (j + 1))[j]? = some x := by rw [List.getElem?_take_of_lt (Nat.lt_succ_self j), hx]
    simp (disch := first | exact sideD | fail) only [go_sem, g0, g1, g4, e, e2, ia_33 h2, ld_136 h2 hx2]
    refine Wcond_if (fun hx0 => ?_) (fun hx0 => ?_)
    · simp (disch := first | exact sideD | fail) only [go_sem, g1, e2, sl_33 h2 (Nat.le_succ j)]
      exact ⟨j, Nat.lt_succ_self j, by omega, nz_last l j hz (by rw [hx, show x = 0 by omega]), by simp (disch := first | exact sideD | fail) only [go_sem, g0], by simp (disch := first | exact sideD | fail) only [go_sem], by simp (disch := first | exact sideD | fail) only [go_sem, g4], trivial⟩
    · have hnzl := nz_eq l j x hz hx (by omega)
      simp (disch := first | exact sideD | fail) only [go_sem, g0, g1, g4, e3, sc_33 h2 (Nat.le_refl _), bd_35, hc, st_35, lo_35]
      have ht : Dg cxH (σ.fresh.add (.row [.bool false, .slice none 0 0] 35)) b (j + 1) (j + 1) (trimmed l) := by
        unfold trimmed
        rw [hnzl]
        refine ⟨⟨h2.sl.len, .inl ⟨?_, Nat.le_refl _⟩, fun e => ?_, h2.sl.at'⟩, h2.lt⟩
        · have : (1000000 : Nat) < capBase := by decide
          omega
        · have := (h2.sl.nil e).1
          omega
      exact ⟨isInt_back (isInt_set (isInt_of ht h.lt (by omega)) hc rfl rfl), back_ext (e0.set _ (Nat.le_refl _))⟩
end
section
theorem nz_val (l : List Nat) (hl : ∀ x ∈ l, x < B) : nz l = 0 ↔ val l = 0 := ⟨nz_zero_val l, fun e => by
  have := digits_val l hl
  rw [e, digits_zero] at this
  rw [← trimmed_length, ← this]
  rfl⟩
theorem nz_digits_val (l : List Nat) (hl : ∀ x ∈ l, x < B) : nz l = (digits (val l)).length := by rw [digits_val l hl, trimmed_length]
def GInt (σ : St) (v : Value) (z : Int) : Prop := ∃ neg b n c l, v = .agg #[.bool neg, .slice b n c] ∧ Dg cxH σ b n c l ∧ n ≤ 100000 ∧ z = sval neg l
theorem sval_digits (z : Int) : sval (decide (z < 0)) (digits z.natAbs) = z := by
  unfold sval
  rw [val_digits]
  by_cases h : z < 0
  · simp [h]; omega
  · simp [h]; omega
theorem isInt_g {σ : St} {v : Value} {z : Int} (h : IsInt σ v z) (hz : Sz z 100000) : GInt σ v z := by
  obtain ⟨b, n, c, rfl, h⟩ := h
  exact ⟨_, b, n, c, _, rfl, h, by rw [h.len]; exact hz.len, (sval_digits z).symm⟩
theorem isInt_ext {σ σ' : St} {v : Value} {z : Int} (h : IsInt σ v z) (e : Ext' σ σ') : IsInt σ' v z := by
  obtain ⟨b, n, c, rfl, h⟩ := h
  exact ⟨b, n, c, rfl, h.ext e⟩
theorem gInt_ext {σ σ' : St} {v : Value} {z : Int} (h : GInt σ v z) (e : Ext' σ σ') : GInt σ' v z := by
  obtain ⟨neg, b, n, c, l, rfl, h, k⟩ := h
  exact ⟨neg, b, n, c, l, rfl, h.ext e, k⟩
theorem gInt_sz {σ : St} {v : Value} {z : Int} (h : GInt σ v z) : Sz z 100000 := by
  obtain ⟨neg, b, n, c, l, rfl, h, k, rfl⟩ := h
  exact (sz_sval h.lt).le (by rw [← h.len]; exact k)
theorem mag_ok {σ : St} {neg : Bool} {b : Option Addr} {n c : Nat} {l : List Nat} (h : Dg cxH σ b n c l) (hn : n ≤ 1000000) :
    C cxH 145 [.agg #[.bool neg, .slice b n c]] σ fun v σ' => (∃ m, v = .slice b m c ∧ Dg cxH σ' b m c (digits (val l))) ∧ Ext' σ σ' :=
  (magnitude_ok h hn).mono fun v σ' ⟨h1, h2⟩ => ⟨⟨nz l, h1, by
    rw [digits_val l h.lt]
    exact (h.ext h2).take (by have := nz_le l; rw [h.len]; exact this)⟩, h2⟩
theorem trim_ok' {σ : St} {b : Option Addr} {n c : Nat} {l : List Nat} (h : Dg cxH σ b n c l) (hn : n ≤ 1000000) :
    C cxH 139 [.slice b n c] σ fun v σ' => (∃ m, v = .slice b m c ∧ Dg cxH σ' b m c (digits (val l))) ∧ Ext' σ σ' :=
  (trim_ok h hn).mono fun v σ' ⟨h1, h2⟩ => ⟨⟨nz l, h1, by
    rw [digits_val l h.lt]
    exact (h.ext h2).take (by have := nz_le l; rw [h.len]; exact this)⟩, h2⟩
theorem clone_ok' {σ : St} {b : Option Addr} {n c : Nat} {l : List Nat} (h : Dg cxH σ b n c l) (hn : n ≤ 1000000) :
    C cxH 191 [.slice b n c] σ fun v σ' => (∃ b' c', v = .slice b' n c' ∧ Dg cxH σ' b' n c' l) ∧ Ext' σ σ' :=
  (clone_ok h hn).mono fun v σ' ⟨b', c', h1, h2, h3⟩ => ⟨⟨b', c', h1, h2⟩, h3⟩
theorem digits_len_le {l : List Nat} (h : ∀ x ∈ l, x < B) : (digits (val l)).length ≤ l.length := digits_length (val_lt h)
theorem sign_ok {σ : St} {v : Value} {z : Int} (h : GInt σ v z) : C cxH 104 [v] σ fun v σ' => v = .int .i64 z.sign ∧ σ' = σ := by
  obtain ⟨neg, b, n, c, l, rfl, h, hn, rfl⟩ := h
  have hl := h.len
  refine C_in (N := 11) (rs := [.tmp 2]) fn_104 (by rfl) (by rfl) (by rfl) (by rfl) (by rfl) (by rfl) ?_
  simp (disch := first | exact sideD | fail) only [go_sem]
  have e0 : Ext' σ.fresh (σ.fresh.add (.row [.bool neg, .slice b n c] 35)) := (Ext'.refl _).add _
  simp (disch := first | exact sideD | fail) only [go_sem, lo_35]
  apply use
  case hl => exact sideX
  case h => exact mag_ok ((h.ext (Ext'.to_fresh σ)).ext e0) (by omega)
  rintro _ σ1 ⟨m, rfl, d1⟩ e1 l1
  have n_e1 := e1.next
  try simp only [add_next, set_next, fresh_next, low_next, lw_next] at n_e1
  have hm := d1.len
  by_cases h0 : val l = 0
  · rw [h0, digits_zero] at hm
    have e : ((m : Int) = 0) = True := eq_true (by simp at hm; omega)
    simp (disch := first | exact sideD | fail) only [go_sem, e]
    refine ⟨?_, back_plain (e0.trans e1) rfl⟩
    have : sval neg l = 0 := by unfold sval; rw [h0]; cases neg <;> rfl
    rw [this]; rfl
  · have e : ((m : Int) = 0) = False := eq_false (by
      rw [digits_pos h0, List.length_cons] at hm
      omega)
    cases neg
    · simp (disch := first | exact sideD | fail) only [go_sem, e, e1.look, fa_35_0, lo_4_0]
      exact ⟨by rw [show (sval false l).sign = 1 from Int.sign_eq_one_of_pos (by unfold sval; simp; omega)], back_plain (e0.trans e1) rfl⟩
    · simp (disch := first | exact sideD | fail) only [go_sem, e, e1.look, fa_35_0, lo_4_0]
      exact ⟨by rw [show (sval true l).sign = -1 from Int.sign_eq_neg_one_of_neg (by unfold sval; simp; omega)], back_plain (e0.trans e1) rfl⟩
theorem isInt_put {σ0 σ : St} {p : Nat} {v : Value} {z : Int} (h : IsInt σ v z) (hc : Sym.look cxH σ p = some (.row [.bool false, .slice none 0 0] 35)) (e : Ext' σ0.fresh σ) (hp : σ0.next ≤ p) :
    ∃ b n c, v = .agg #[.bool (decide (z < 0)), .slice b n c] ∧ IsInt (back σ0 v (σ.set p (.row [.bool (decide (z < 0)), .slice b n c] 35))) v z ∧ Ext' σ0 (back σ0 v (σ.set p (.row [.bool (decide (z < 0)), .slice b n c] 35))) := by
  obtain ⟨b, n, c, rfl, h⟩ := h
  exact ⟨b, n, c, rfl, isInt_back (isInt_set ⟨b, n, c, rfl, h⟩ hc rfl rfl), back_ext (e.set _ hp)⟩
theorem negate_ok {σ : St} {v : Value} {z : Int} (h : GInt σ v z) : C cxH 143 [v] σ fun v σ' => IsInt σ' v (-z) ∧ Ext' σ σ' := by
  obtain ⟨neg, b, n, c, l, rfl, h, hn, rfl⟩ := h
  have hl := h.len
  have hdl := digits_len_le h.lt
  refine C_in (N := 10) (rs := [.cell 2 35]) fn_143 (by rfl) (by rfl) (by rfl) (by rfl) (by rfl) (by rfl) ?_
  have e0 : Ext' σ.fresh ((σ.fresh.add (.row [.bool neg, .slice b n c] 35)).add (.row [.bool false, .slice none 0 0] 35)) := ((Ext'.refl _).add _).add _
  simp (disch := first | exact sideD | fail) only [go_sem, al_35, fa_35_0, lo_4_0, Wun_not, lo_35]
  have h' := (h.ext (Ext'.to_fresh σ)).ext e0
  apply useD
  case hl => exact sideX
  case h => exact mag_ok h' (by omega)
  case hR => exact fun _ _ _ h => h
  rintro _ σ1 ⟨m, rfl, d1⟩ e1 l1
  have n_e1 := e1.next
  try simp only [add_next, set_next, fresh_next, low_next, lw_next] at n_e1
  have hm := d1.len
  simp (disch := first | exact sideD | fail) only [go_sem]
  apply useD
  case hl => exact sideX
  case h => exact clone_ok' d1 (by omega)
  case hR => exact fun _ _ _ h => h
  rintro _ σ2 ⟨b2, c2, rfl, d2⟩ e2 l2
  have n_e2 := e2.next
  try simp only [add_next, set_next, fresh_next, low_next, lw_next] at n_e2
  simp (disch := first | exact sideD | fail) only [go_sem]
  apply useD
  case hl => exact sideX
  case h => exact canonical_ok d2 (by omega)
  case hR => exact fun _ _ _ h => h
  rintro v σ3 h3 e3 l3
  have n_e3 := e3.next
  try simp only [add_next, set_next, fresh_next, low_next, lw_next] at n_e3
  have E3 := ((e0.trans e1).trans e2).trans e3
  have hc : Sym.look cxH σ3 (σ.next + 1) = some (.row [.bool false, .slice none 0 0] 35) := by simp (disch := first | exact sideD | fail) only [go_sem, e3.look, e2.look, e1.look]
  have hv : sval (!neg) (digits (val l)) = - sval neg l := by
    unfold sval
    rw [val_digits]
    cases neg <;> simp
  rw [hv] at h3
  obtain ⟨b3, n3, c3, rfl, h4, h5⟩ := isInt_put (σ0 := σ) h3 hc E3 (by omega)
  simp (disch := first | exact sideD | fail) only [go_sem, hc, st_35, lo_35]
  exact ⟨h4, h5⟩
end
section
theorem oc_2 {σ : St} {a : Int} : opConv cxH σ 2 180 (.int .i64 a) = some (.val (.int .u64 (IntKind.u64.wrap a)) σ) := by kernel_rfl
theorem oc_180 {σ : St} {a : Int} : opConv cxH σ 180 136 (.int .u64 a) = some (.val (.int .u32 (IntKind.u32.wrap a)) σ) := by kernel_rfl
theorem oc_136 {σ : St} {a : Int} : opConv cxH σ 136 180 (.int .u32 a) = some (.val (.int .u64 (IntKind.u64.wrap a)) σ) := by kernel_rfl
theorem oc_3 {σ : St} {a : Int} : opConv cxH σ 3 182 (.int .i64 a) = some (.val (.int .u64 (IntKind.u64.wrap a)) σ) := by kernel_rfl
theorem cv_2 {σ : St} {a : Int} {K : Value → St → Prop} : Wconv cxH σ 2 180 (.int .i64 a) K = K (.int .u64 (IntKind.u64.wrap a)) σ := Wconv_of oc_2
theorem cv_180 {σ : St} {a : Int} {K : Value → St → Prop} : Wconv cxH σ 180 136 (.int .u64 a) K = K (.int .u32 (IntKind.u32.wrap a)) σ := Wconv_of oc_180
theorem cv_136 {σ : St} {a : Int} {K : Value → St → Prop} : Wconv cxH σ 136 180 (.int .u32 a) K = K (.int .u64 (IntKind.u64.wrap a)) σ := Wconv_of oc_136
theorem cv_3 {σ : St} {a : Int} {K : Value → St → Prop} : Wconv cxH σ 3 182 (.int .i64 a) K = K (.int .u64 (IntKind.u64.wrap a)) σ := Wconv_of oc_3
attribute [go_sem ↓] cv_2 cv_180 cv_136 cv_3
attribute [go_sem] Bool.not_true Bool.not_false
theorem bs_33 {σ : St} {x y : Int} {K : Value → St → Prop} : Wbs cxH σ 33 2 [(0, .int .u32 x), (1, .int .u32 y)] K = K (.slice (some ⟨σ.next, 0, none⟩) 2 2) (σ.add (.row [.int .u32 x, .int .u32 y] 136)) := by
  have e : opBuildSlice cxH σ 33 2 [(0, .int .u32 x), (1, .int .u32 y)] = some (.val (.slice (some ⟨σ.next, 0, none⟩) 2 2) (σ.add (.row [.int .u32 x, .int .u32 y] 136))) := by
    unfold opBuildSlice
    rw [ty_33]
    simp only [Option.bind_eq_bind, Option.bind_some]
    show (ty cxH 136).bind _ = _
    rw [ty_136]
    rfl
  unfold Wbs
  rw [e]
  exact Wr_some
theorem wu64 {a : Int} : IntKind.u64.wrap a = a % 18446744073709551616 := by
  unfold IntKind.wrap
  simp [IntKind.bits, IntKind.signed]
theorem shr32 {t : TypeId} {ox oy : Operand} {l : IntKind} {m : Nat} {K : Value → Prop} : Wbin cxH .shr t ox oy (.int .u64 (m : Int)) (.int l 32) K = K (.int .u64 ((m / B : Nat) : Int)) := by
  rw [Wbin_shr (by decide)]
  have : (m : Int).fdiv (2 ^ min (Int.toNat 32) IntKind.u64.bits) = ((m / B : Nat) : Int) := by
    show (m : Int).fdiv ((2 : Int) ^ 32) = _
    rw [Int.fdiv_eq_ediv_of_nonneg _ (by decide)]
    rfl
  rw [this]
theorem two_digits {m : Nat} (h : m < 18446744073709551616) : Num.val [m % B, m / B % B] = m := by
  have : m / B < B := by
    rw [Nat.div_lt_iff_lt_mul (by decide)]
    exact h
  simp only [Num.val, Nat.mul_zero, Nat.add_zero, Nat.mod_eq_of_lt this]
  exact Nat.mod_add_div m B
theorem dg_new {σ : St} {l : List Nat} {n : Nat} (h : ∀ x ∈ l, x < B) (hn : n = l.length) (hc : n < capBase) : Dg cxH (σ.add (.row (l.map dig) 136)) (some ⟨σ.next, 0, none⟩) n n l := by
  subst hn
  refine ⟨⟨by simp, .inl ⟨hc, Nat.le_refl _⟩, (fun e => by cases e), fun a ha => ?_⟩, h⟩
  injection ha with ha
  subst ha
  refine ⟨Nat.lt_succ_self _, fun _ => ⟨rfl, _, look_add rfl, ?_, ?_⟩⟩
  · show 0 + l.length * 1 ≤ (l.map dig).length
    simp
  · show ((l.map dig).drop 0).take (l.length * 1) = _
    rw [List.drop_zero, List.take_of_length_le (by simp)]
theorem small_cap {n : Nat} (h : n ≤ 1000000) : n < capBase := Nat.lt_of_le_of_lt h (by decide)
theorem dg_two {σ : St} {m : Nat} : Dg cxH (σ.add (.row [.int .u32 ((m % B : Nat) : Int), .int .u32 ((m / B % B : Nat) : Int)] 136)) (some ⟨σ.next, 0, none⟩) 2 2 [m % B, m / B % B] :=
  dg_new (l := [m % B, m / B % B]) (fun x hx => by
    simp only [List.mem_cons, List.not_mem_nil, or_false] at hx
    rcases hx with rfl | rfl <;> exact Nat.mod_lt _ (by decide)) rfl (by decide)
theorem sz_64 {a : Int} (h1 : -9223372036854775808 ≤ a) (h2 : a < 9223372036854775808) : Sz a 2 := by
  show a.natAbs < B ^ 2
  have : B ^ 2 = 18446744073709551616 := by decide
  omega
theorem fromInt64_ok {σ : St} {a : Int} (h1 : -9223372036854775808 ≤ a) (h2 : a < 9223372036854775808) : C cxH 98 [.int .i64 a] σ fun v σ' => IsInt σ' v a ∧ Ext' σ σ' := by
  obtain ⟨m, hm⟩ : ∃ m : Nat, m = a.natAbs := ⟨_, rfl⟩
  have w1 : IntKind.u32.wrap (m : Int) = ((m % B : Nat) : Int) := wr32
  have w2 : IntKind.u32.wrap ((m / B : Nat) : Int) = ((m / B % B : Nat) : Int) := wr32
  have hs : ∀ neg, sval neg [m % B, m / B % B] = if neg then -(m : Int) else m := fun neg => by
    unfold sval
    rw [two_digits (by omega)]
  refine C_in (N := 19) (rs := [.cell 2 35]) fn_98 (by rfl) (by rfl) (by rfl) (by rfl) (by rfl) (by rfl) ?_
  simp (disch := first | exact sideD | fail) only [go_sem, al_35]
  by_cases hn : a < 0
  · have e : (a < 0) = True := eq_true hn
    have w0 : IntKind.u64.wrap (0 - IntKind.u64.wrap a) = (m : Int) := by
      rw [wu64, wu64]
      omega
    simp (disch := first | exact sideD | fail) only [go_sem, e, Wun_neg, w0, w1, shr32, w2, bs_33]
    have e0 : Ext' σ.fresh ((σ.fresh.add (.row [.bool false, .slice none 0 0] 35)).add (.row [.int .u32 ((m % B : Nat) : Int), .int .u32 ((m / B % B : Nat) : Int)] 136)) := ((Ext'.refl _).add _).add _
    apply use
    case hl => exact sideX
    case h => exact canonical_ok (neg := true) dg_two (by decide)
    rintro v σ1 h3 e1 l1
    have n_e1 := e1.next
    try simp only [add_next, set_next, fresh_next, low_next, lw_next] at n_e1
    rw [hs, if_pos rfl, show -(m : Int) = a by omega] at h3
    have hc : Sym.look cxH σ1 σ.next = some (.row [.bool false, .slice none 0 0] 35) := by simp (disch := first | exact sideD | fail) only [go_sem, e1.look]
    obtain ⟨b3, n3, c3, rfl, h4, h5⟩ := isInt_put (σ0 := σ) h3 hc (e0.trans e1) (by omega)
    simp (disch := first | exact sideD | fail) only [go_sem, hc, st_35, lo_35]
    exact ⟨h4, h5⟩
  · have e : (a < 0) = False := eq_false hn
    have w0 : IntKind.u64.wrap a = (m : Int) := by
      rw [wu64]
      omega
    simp (disch := first | exact sideD | fail) only [go_sem, e, w0, w1, shr32, w2, bs_33]
    have e0 : Ext' σ.fresh ((σ.fresh.add (.row [.bool false, .slice none 0 0] 35)).add (.row [.int .u32 ((m % B : Nat) : Int), .int .u32 ((m / B % B : Nat) : Int)] 136)) := ((Ext'.refl _).add _).add _
    apply use
    case hl => exact sideX
    case h => exact canonical_ok (neg := false) dg_two (by decide)
    rintro v σ1 h3 e1 l1
    have n_e1 := e1.next
    try simp only [add_next, set_next, fresh_next, low_next, lw_next] at n_e1
    rw [hs, if_neg (by decide), show (m : Int) = a by omega] at h3
    have hc : Sym.look cxH σ1 σ.next = some (.row [.bool false, .slice none 0 0] 35) := by simp (disch := first | exact sideD | fail) only [go_sem, e1.look]
    obtain ⟨b3, n3, c3, rfl, h4, h5⟩ := isInt_put (σ0 := σ) h3 hc (e0.trans e1) (by omega)
    simp (disch := first | exact sideD | fail) only [go_sem, hc, st_35, lo_35]
    exact ⟨h4, h5⟩
end
section
theorem rFromInt64_ok {σ : St} {a : Int} (h1 : -9223372036854775808 ≤ a) (h2 : a < 9223372036854775808) : C cxH 53 [.int .i64 a] σ fun v σ' => IsInt σ' v a ∧ Ext' σ σ' := by
  obtain ⟨m, hm⟩ : ∃ m : Nat, m = a.natAbs := ⟨_, rfl⟩
  have w1 : IntKind.u32.wrap (m : Int) = ((m % B : Nat) : Int) := wr32
  have w2 : IntKind.u32.wrap ((m / B : Nat) : Int) = ((m / B % B : Nat) : Int) := wr32
  have hs : ∀ neg, sval neg [m % B, m / B % B] = if neg then -(m : Int) else m := fun neg => by
    unfold sval
    rw [two_digits (by omega)]
  refine C_in (N := 19) (rs := [.cell 2 35]) fn_53 (by rfl) (by rfl) (by rfl) (by rfl) (by rfl) (by rfl) ?_
  simp (disch := first | exact sideD | fail) only [go_sem, al_35]
  by_cases hn : a < 0
  · have e : (a < 0) = True := eq_true hn
    have w0 : IntKind.u64.wrap (0 - IntKind.u64.wrap a) = (m : Int) := by
      rw [wu64, wu64]
      omega
    simp (disch := first | exact sideD | fail) only [go_sem, e, Wun_neg, w0, w1, shr32, w2, bs_33]
    have e0 : Ext' σ.fresh ((σ.fresh.add (.row [.bool false, .slice none 0 0] 35)).add (.row [.int .u32 ((m % B : Nat) : Int), .int .u32 ((m / B % B : Nat) : Int)] 136)) := ((Ext'.refl _).add _).add _
    apply use
    case hl => exact sideX
    case h => exact make_ok (neg := true) dg_two (by decide)
    rintro v σ1 h3 e1 l1
    have n_e1 := e1.next
    try simp only [add_next, set_next, fresh_next, low_next, lw_next] at n_e1
    rw [hs, if_pos rfl, show -(m : Int) = a by omega] at h3
    have hc : Sym.look cxH σ1 σ.next = some (.row [.bool false, .slice none 0 0] 35) := by simp (disch := first | exact sideD | fail) only [go_sem, e1.look]
    obtain ⟨b3, n3, c3, rfl, h4, h5⟩ := isInt_put (σ0 := σ) h3 hc (e0.trans e1) (by omega)
    simp (disch := first | exact sideD | fail) only [go_sem, hc, st_35, lo_35]
    exact ⟨h4, h5⟩
  · have e : (a < 0) = False := eq_false hn
    have w0 : IntKind.u64.wrap a = (m : Int) := by
      rw [wu64]
      omega
    simp (disch := first | exact sideD | fail) only [go_sem, e, w0, w1, shr32, w2, bs_33]
    have e0 : Ext' σ.fresh ((σ.fresh.add (.row [.bool false, .slice none 0 0] 35)).add (.row [.int .u32 ((m % B : Nat) : Int), .int .u32 ((m / B % B : Nat) : Int)] 136)) := ((Ext'.refl _).add _).add _
    apply use
    case hl => exact sideX
    case h => exact make_ok (neg := false) dg_two (by decide)
    rintro v σ1 h3 e1 l1
    have n_e1 := e1.next
    try simp only [add_next, set_next, fresh_next, low_next, lw_next] at n_e1
    rw [hs, if_neg (by decide), show (m : Int) = a by omega] at h3
    have hc : Sym.look cxH σ1 σ.next = some (.row [.bool false, .slice none 0 0] 35) := by simp (disch := first | exact sideD | fail) only [go_sem, e1.look]
    obtain ⟨b3, n3, c3, rfl, h4, h5⟩ := isInt_put (σ0 := σ) h3 hc (e0.trans e1) (by omega)
    simp (disch := first | exact sideD | fail) only [go_sem, hc, st_35, lo_35]
    exact ⟨h4, h5⟩
theorem rOne_ok {σ : St} : C cxH 91 [] σ fun v σ' => IsInt σ' v 1 ∧ Ext' σ σ' := by
  refine C_in (N := 2) (rs := [.cell 0 35]) fn_91 (by rfl) (by rfl) (by rfl) (by rfl) (by rfl) (by rfl) ?_
  simp (disch := first | exact sideD | fail) only [go_sem, al_35]
  have e0 : Ext' σ.fresh (σ.fresh.add (.row [.bool false, .slice none 0 0] 35)) := (Ext'.refl _).add _
  apply use
  case hl => exact sideX
  case h => exact rFromInt64_ok (by decide) (by decide)
  rintro v σ1 h3 e1 l1
  have n_e1 := e1.next
  try simp only [add_next, set_next, fresh_next, low_next, lw_next] at n_e1
  have hc : Sym.look cxH σ1 σ.next = some (.row [.bool false, .slice none 0 0] 35) := by simp (disch := first | exact sideD | fail) only [go_sem, e1.look]
  obtain ⟨b3, n3, c3, rfl, h4, h5⟩ := isInt_put (σ0 := σ) h3 hc (e0.trans e1) (by omega)
  simp (disch := first | exact sideD | fail) only [go_sem, hc, st_35, lo_35]
  exact ⟨h4, h5⟩
theorem one_ok {σ : St} : C cxH 142 [] σ fun v σ' => IsInt σ' v 1 ∧ Ext' σ σ' := by
  refine C_in (N := 2) (rs := [.cell 0 35]) fn_142 (by rfl) (by rfl) (by rfl) (by rfl) (by rfl) (by rfl) ?_
  simp (disch := first | exact sideD | fail) only [go_sem, al_35]
  have e0 : Ext' σ.fresh (σ.fresh.add (.row [.bool false, .slice none 0 0] 35)) := (Ext'.refl _).add _
  apply use
  case hl => exact sideX
  case h => exact fromInt64_ok (by decide) (by decide)
  rintro v σ1 h3 e1 l1
  have n_e1 := e1.next
  try simp only [add_next, set_next, fresh_next, low_next, lw_next] at n_e1
  have hc : Sym.look cxH σ1 σ.next = some (.row [.bool false, .slice none 0 0] 35) := by simp (disch := first | exact sideD | fail) only [go_sem, e1.look]
  obtain ⟨b3, n3, c3, rfl, h4, h5⟩ := isInt_put (σ0 := σ) h3 hc (e0.trans e1) (by omega)
  simp (disch := first | exact sideD | fail) only [go_sem, hc, st_35, lo_35]
  exact ⟨h4, h5⟩
theorem canon_ok {σ : St} {v : Value} {z : Int} (h : GInt σ v z) : C cxH 106 [v] σ fun v σ' => IsInt σ' v z ∧ Ext' σ σ' := by
  obtain ⟨neg, b, n, c, l, rfl, h, hn, rfl⟩ := h
  refine C_in (N := 8) (rs := [.cell 2 35]) fn_106 (by rfl) (by rfl) (by rfl) (by rfl) (by rfl) (by rfl) ?_
  have e0 : Ext' σ.fresh ((σ.fresh.add (.row [.bool neg, .slice b n c] 35)).add (.row [.bool false, .slice none 0 0] 35)) := ((Ext'.refl _).add _).add _
  simp (disch := first | exact sideD | fail) only [go_sem, al_35, fa_35_0, lo_4_0, fa_35_1, lo_33_1]
  have h' := (h.ext (Ext'.to_fresh σ)).ext e0
  apply use
  case hl => exact sideX
  case h => exact make_ok (neg := neg) h' (by omega)
  rintro v σ1 h3 e1 l1
  have n_e1 := e1.next
  try simp only [add_next, set_next, fresh_next, low_next, lw_next] at n_e1
  have hc : Sym.look cxH σ1 (σ.next + 1) = some (.row [.bool false, .slice none 0 0] 35) := by simp (disch := first | exact sideD | fail) only [go_sem, e1.look]
  obtain ⟨b3, n3, c3, rfl, h4, h5⟩ := isInt_put (σ0 := σ) h3 hc (e0.trans e1) (by omega)
  simp (disch := first | exact sideD | fail) only [go_sem, hc, st_35, lo_35]
  exact ⟨h4, h5⟩
theorem rNegate_ok {σ : St} {v : Value} {z : Int} (h : GInt σ v z) : C cxH 107 [v] σ fun v σ' => IsInt σ' v (-z) ∧ Ext' σ σ' := by
  obtain ⟨neg, b, n, c, l, rfl, h, hn, rfl⟩ := h
  refine C_in (N := 9) (rs := [.cell 2 35]) fn_107 (by rfl) (by rfl) (by rfl) (by rfl) (by rfl) (by rfl) ?_
  have e0 : Ext' σ.fresh ((σ.fresh.add (.row [.bool neg, .slice b n c] 35)).add (.row [.bool false, .slice none 0 0] 35)) := ((Ext'.refl _).add _).add _
  simp (disch := first | exact sideD | fail) only [go_sem, al_35, fa_35_0, lo_4_0, fa_35_1, lo_33_1, Wun_not]
  have h' := (h.ext (Ext'.to_fresh σ)).ext e0
  apply use
  case hl => exact sideX
  case h => exact make_ok (neg := !neg) h' (by omega)
  rintro v σ1 h3 e1 l1
  have n_e1 := e1.next
  try simp only [add_next, set_next, fresh_next, low_next, lw_next] at n_e1
  have hc : Sym.look cxH σ1 (σ.next + 1) = some (.row [.bool false, .slice none 0 0] 35) := by simp (disch := first | exact sideD | fail) only [go_sem, e1.look]
  have hv : sval (!neg) l = - sval neg l := by
    unfold sval
    cases neg <;> simp
  rw [hv] at h3
  obtain ⟨b3, n3, c3, rfl, h4, h5⟩ := isInt_put (σ0 := σ) h3 hc (e0.trans e1) (by omega)
  simp (disch := first | exact sideD | fail) only [go_sem, hc, st_35, lo_35]
  exact ⟨h4, h5⟩
def cmp (x y : Nat) : Int := ((x : Int) - (y : Int)).sign
theorem cmp_lt {x y : Nat} (h : x < y) : cmp x y = -1 := Int.sign_eq_neg_one_of_neg (by omega)
theorem cmp_gt {x y : Nat} (h : y < x) : cmp x y = 1 := Int.sign_eq_one_of_pos (by omega)
theorem cmp_self {x : Nat} : cmp x x = 0 := by unfold cmp; simp
theorem compare_ok {σ : St} {b b' : Option Addr} {n c n' c' : Nat} {x y : Nat} (h : Dg cxH σ b n c (digits x)) (h2 : Dg cxH σ b' n' c' (digits y)) (hn : n ≤ 1000000) (hn' : n' ≤ 1000000) :
    C cxH 144 [.slice b n c, .slice b' n' c'] σ fun v σ' => v = .int .i64 (cmp x y) ∧ σ' = σ := by
  have hl := h.len
  have hl2 := h2.len
  have d1 := h.ext (Ext'.to_fresh σ)
  have d2 := h2.ext (Ext'.to_fresh σ)
  refine C_in (N := 41) (rs := [.tmp 4]) fn_144 (by rfl) (by rfl) (by rfl) (by rfl) (by rfl) (by rfl) ?_
  simp (disch := first | exact sideD | fail) only [go_sem]
  by_cases hnn : n = n'
  · subst hnn
    have e : ((n : Int) = (n : Int)) = True := eq_self _
    have e2 : IntKind.i64.wrap ((n : Int) - 1) = (n : Int) - 1 := wr64 (by omega) (by omega)
    simp (disch := first | exact sideD | fail) only [go_sem, e, e2]
    refine Wloop_inv (fun j g σ' => j ≤ n ∧ g 0 = .slice b n c ∧ g 1 = .slice b' n c' ∧ g 5 = .int .i64 ((j : Int) - 1) ∧ σ' = σ.fresh ∧ (digits x).drop j = (digits y).drop j) n (by rfl)
      ⟨Nat.le_refl n, rfl, rfl, rfl, rfl, by rw [List.drop_of_length_le (by omega), List.drop_of_length_le (by omega)]⟩ ?_
    rintro j g _ ⟨hj, g0, g1, g5, rfl, hd⟩
    by_cases hj0 : j = 0
    · subst hj0
      have e3 : (0 ≤ ((0 : Nat) : Int) - 1) = False := eq_false (by omega)
      simp (disch := first | exact sideD | fail) only [go_sem, g0, g1, g5, e3]
      have : x = y := digits_inj hd
      subst this
      exact ⟨by rw [cmp_self], back_plain (Ext'.refl _) rfl⟩
    · obtain ⟨k, rfl⟩ : ∃ k, j = k + 1 := ⟨j - 1, by omega⟩
      rw [show ((k + 1 : Nat) : Int) - 1 = (k : Int) by omega] at g5
      have e3 : (0 ≤ (k : Int)) = True := eq_true (by omega)
      have e4 : IntKind.i64.wrap ((k : Int) - 1) = (k : Int) - 1 := wr64 (by omega) (by omega)
      obtain ⟨u, hu⟩ : ∃ u, (digits x)[k]? = some u := ⟨(digits x)[k]'(by omega), List.getElem?_eq_getElem _⟩
      obtain ⟨w, hw⟩ : ∃ w, (digits y)[k]? = some w := ⟨(digits y)[k]'(by omega), List.getElem?_eq_getElem _⟩
      by_cases huw : u = w
      · have e5 : ((u : Int) = (w : Int)) = True := eq_true (by omega)
        simp (disch := first | exact sideD | fail) only [go_sem, g0, g1, g5, e3, ia_33 d1, ia_33 d2, ld_136 d1 hu, ld_136 d2 hw, e5, e4]
        refine ⟨k, Nat.lt_succ_self k, by omega, by simp (disch := first | exact sideD | fail) only [go_sem, g0], by simp (disch := first | exact sideD | fail) only [go_sem, g1], by simp (disch := first | exact sideD | fail) only [go_sem], trivial, ?_⟩
        obtain ⟨hk, hu'⟩ := List.getElem?_eq_some_iff.1 hu
        obtain ⟨hk', hw'⟩ := List.getElem?_eq_some_iff.1 hw
        rw [List.drop_eq_getElem_cons hk, List.drop_eq_getElem_cons hk', hd, hu', hw', huw]
      · have e5 : ((u : Int) = (w : Int)) = False := eq_false (by omega)
        simp (disch := first | exact sideD | fail) only [go_sem, g0, g1, g5, e3, ia_33 d1, ia_33 d2, ld_136 d1 hu, ld_136 d2 hw, e5]
        have key := fun h => val_lt_at (digits_lt x) hu hw hd h
        have key2 := fun h => val_lt_at (digits_lt y) hw hu hd.symm h
        rw [val_digits, val_digits] at key key2
        refine Wcond_if (fun h3 => ?_) (fun h3 => ?_)
        · simp (disch := first | exact sideD | fail) only [go_sem]
          exact ⟨by rw [cmp_lt (key (by omega))], back_plain (Ext'.refl _) rfl⟩
        · simp (disch := first | exact sideD | fail) only [go_sem]
          exact ⟨by rw [cmp_gt (key2 (by omega))], back_plain (Ext'.refl _) rfl⟩
  · have e : ((n : Int) = (n' : Int)) = False := eq_false (by omega)
    simp (disch := first | exact sideD | fail) only [go_sem, e]
    refine Wcond_if (fun h3 => ?_) (fun h3 => ?_)
    · simp (disch := first | exact sideD | fail) only [go_sem]
      exact ⟨by rw [cmp_lt (digits_shorter (by omega))], back_plain (Ext'.refl _) rfl⟩
    · simp (disch := first | exact sideD | fail) only [go_sem]
      exact ⟨by rw [cmp_gt (digits_shorter (by omega))], back_plain (Ext'.refl _) rfl⟩
end
section
theorem compareDigits_ok {σ : St} {b b' : Option Addr} {n c n' c' : Nat} {la lb : List Nat} (h : Dg cxH σ b n c la) (h2 : Dg cxH σ b' n' c' lb) (hn : n ≤ 1000000) (hn' : n' ≤ 1000000) :
    C cxH 153 [.slice b n c, .slice b' n' c'] σ fun v σ' => v = .int .i64 (cmp (val la) (val lb)) ∧ σ' = σ := by
  obtain ⟨x, hx⟩ : ∃ x, x = val la := ⟨_, rfl⟩
  obtain ⟨y, hy⟩ : ∃ y, y = val lb := ⟨_, rfl⟩
  rw [← hx, ← hy]
  have hl := h.len
  have hl2 := h2.len
  have hq := digits_len_le h.lt
  have hq2 := digits_len_le h2.lt
  rw [← hx] at hq
  rw [← hy] at hq2
  refine C_in (N := 45) (rs := [.tmp 4]) fn_153 (by rfl) (by rfl) (by rfl) (by rfl) (by rfl) (by rfl) ?_
  simp (disch := first | exact sideD | fail) only [go_sem]
  apply use
  case hl => exact sideX
  case h => exact trim_ok' (h.ext (Ext'.to_fresh σ)) hn
  rintro _ σ1 ⟨m, rfl, d1⟩ e1 l1
  have n_e1 := e1.next
  try simp only [add_next, set_next, fresh_next, low_next, lw_next] at n_e1
  simp (disch := first | exact sideD | fail) only [go_sem]
  apply use
  case hl => exact sideX
  case h => exact trim_ok' ((h2.ext (Ext'.to_fresh σ)).ext e1) hn'
  rintro _ σ2 ⟨m', rfl, d2⟩ e2 l2
  have n_e2 := e2.next
  try simp only [add_next, set_next, fresh_next, low_next, lw_next] at n_e2
  rw [← hx] at d1
  rw [← hy] at d2
  replace d1 := d1.ext e2
  have E := e1.trans e2
  have hm := d1.len
  have hm' := d2.len
  clear h h2
  simp (disch := first | exact sideD | fail) only [go_sem]
  by_cases hnn : m = m'
  · subst hnn
    have e : ((m : Int) = (m : Int)) = True := eq_self _
    have e2 : IntKind.i64.wrap ((m : Int) - 1) = (m : Int) - 1 := wr64 (by omega) (by omega)
    simp (disch := first | exact sideD | fail) only [go_sem, e, e2]
    refine Wloop_inv (fun j g σ' => j ≤ m ∧ g 0 = .slice b m c ∧ g 1 = .slice b' m c' ∧ g 5 = .int .i64 ((j : Int) - 1) ∧ σ' = σ2 ∧ (digits x).drop j = (digits y).drop j) m (by rfl)
      ⟨Nat.le_refl m, rfl, rfl, rfl, rfl, by rw [List.drop_of_length_le (by omega), List.drop_of_length_le (by omega)]⟩ ?_
    rintro j g _ ⟨hj, g0, g1, g5, rfl, hd⟩
    by_cases hj0 : j = 0
    · subst hj0
      have e3 : (0 ≤ ((0 : Nat) : Int) - 1) = False := eq_false (by omega)
      simp (disch := first | exact sideD | fail) only [go_sem, g0, g1, g5, e3]
      have : x = y := digits_inj hd
      subst this
      exact ⟨by rw [cmp_self], back_plain E rfl⟩
    · obtain ⟨k, rfl⟩ : ∃ k, j = k + 1 := ⟨j - 1, by omega⟩
      rw [show ((k + 1 : Nat) : Int) - 1 = (k : Int) by omega] at g5
      have e3 : (0 ≤ (k : Int)) = True := eq_true (by omega)
      have e4 : IntKind.i64.wrap ((k : Int) - 1) = (k : Int) - 1 := wr64 (by omega) (by omega)
      obtain ⟨u, hu⟩ : ∃ u, (digits x)[k]? = some u := ⟨(digits x)[k]'(by omega), List.getElem?_eq_getElem _⟩
      obtain ⟨w, hw⟩ : ∃ w, (digits y)[k]? = some w := ⟨(digits y)[k]'(by omega), List.getElem?_eq_getElem _⟩
      have key := fun h => val_lt_at (digits_lt x) hu hw hd h
      have key2 := fun h => val_lt_at (digits_lt y) hw hu hd.symm h
      rw [val_digits, val_digits] at key key2
      rcases Nat.lt_trichotomy u w with huw | huw | huw
      · have e5 : ((u : Int) < (w : Int)) = True := eq_true (by omega)
        simp (disch := first | exact sideD | fail) only [go_sem, g0, g1, g5, e3, ia_33 d1, ia_33 d2, ld_136 d1 hu, ld_136 d2 hw, e5]
        exact ⟨by rw [cmp_lt (key huw)], back_plain E rfl⟩
      · have e5 : ((u : Int) < (w : Int)) = False := eq_false (by omega)
        have e6 : ((w : Int) < (u : Int)) = False := eq_false (by omega)
        simp (disch := first | exact sideD | fail) only [go_sem, g0, g1, g5, e3, ia_33 d1, ia_33 d2, ld_136 d1 hu, ld_136 d2 hw, e5, e6, e4]
        refine ⟨k, Nat.lt_succ_self k, by omega, by simp (disch := first | exact sideD | fail) only [go_sem, g0], by simp (disch := first | exact sideD | fail) only [go_sem, g1], by simp (disch := first | exact sideD | fail) only [go_sem], trivial, ?_⟩
        obtain ⟨hk, hu'⟩ := List.getElem?_eq_some_iff.1 hu
        obtain ⟨hk', hw'⟩ := List.getElem?_eq_some_iff.1 hw
        rw [List.drop_eq_getElem_cons hk, List.drop_eq_getElem_cons hk', hd, hu', hw', huw]
      · have e5 : ((u : Int) < (w : Int)) = False := eq_false (by omega)
        have e6 : ((w : Int) < (u : Int)) = True := eq_true (by omega)
        simp (disch := first | exact sideD | fail) only [go_sem, g0, g1, g5, e3, ia_33 d1, ia_33 d2, ld_136 d1 hu, ld_136 d2 hw, e5, e6]
        exact ⟨by rw [cmp_gt (key2 huw)], back_plain E rfl⟩
  · have e : ((m : Int) = (m' : Int)) = False := eq_false (by omega)
    simp (disch := first | exact sideD | fail) only [go_sem, e]
    refine Wcond_if (fun h3 => ?_) (fun h3 => ?_)
    · simp (disch := first | exact sideD | fail) only [go_sem]
      exact ⟨by rw [cmp_lt (digits_shorter (by omega))], back_plain E rfl⟩
    · simp (disch := first | exact sideD | fail) only [go_sem]
      exact ⟨by rw [cmp_gt (digits_shorter (by omega))], back_plain E rfl⟩
theorem st_35' {σ : St} {p : Nat} {e : TypeId} {K : Value → St → Prop} {x y : Value} {neg : Bool} {b : Option Addr} {n c : Nat} : WstO cxH σ 35 p 0 (some (.row [x, y] e)) (.agg #[.bool neg, .slice b n c]) K = K undef (σ.set p (.row [.bool neg, .slice b n c] e)) := st_35
theorem opBin_neq_bool {ox oy : Operand} {a b : Bool} : opBin cxH .neq 4 ox oy (.bool a) (.bool b) = some (.bool (a != b)) := by
  cases a <;> cases b <;> kernel_rfl
theorem wbin_neq_bool {ox oy : Operand} {a b : Bool} {K : Value → Prop} : Wbin cxH .neq 4 ox oy (.bool a) (.bool b) K = K (.bool (a != b)) := by
  unfold Wbin
  rw [opBin_neq_bool, Wo_some]
attribute [go_sem ↓] wbin_neq_bool
theorem rCompare_ok {σ : St} {v w : Value} {x y : Int} (h : GInt σ v x) (h2 : GInt σ w y) : C cxH 105 [v, w] σ fun v σ' => v = .int .i64 (x - y).sign ∧ σ' = σ := by
  have hx := gInt_sz h
  have hy := gInt_sz h2
  obtain ⟨na, ba, ma, ca, la, rfl, ha, hna, rfl⟩ := h
  obtain ⟨nb, bb, mb, cb, lb, rfl, hb, hnb, rfl⟩ := h2
  obtain ⟨x, hxe⟩ : ∃ x, x = sval na la := ⟨_, rfl⟩
  obtain ⟨y, hye⟩ : ∃ y, y = sval nb lb := ⟨_, rfl⟩
  rw [← hxe] at hx
  rw [← hye] at hy
  rw [← hxe, ← hye]
  refine C_in (N := 28) (rs := [.tmp 4]) fn_105 (by rfl) (by rfl) (by rfl) (by rfl) (by rfl) (by rfl) ?_
  have e0 : Ext' σ.fresh ((σ.fresh.add (.row [.bool na, .slice ba ma ca] 35)).add (.row [.bool nb, .slice bb mb cb] 35)) := ((Ext'.refl _).add _).add _
  have ha' := (ha.ext (Ext'.to_fresh σ)).ext e0
  have hb' := (hb.ext (Ext'.to_fresh σ)).ext e0
  simp (disch := first | exact sideD | fail) only [go_sem, lo_35]
  apply useD
  case hl => exact sideX
  case h => exact canon_ok ⟨na, ba, ma, ca, la, rfl, ha', hna, hxe⟩
  case hR => exact fun _ _ _ h => h
  rintro v σ1 h3 e1 l1
  have n_e1 := e1.next
  try simp only [add_next, set_next, fresh_next, low_next, lw_next] at n_e1
  obtain ⟨b3, n3, c3, rfl, d3⟩ := h3
  have hb'' := hb'.ext e1
  simp (disch := first | exact sideD | fail) only [go_sem, e1.look, lo_35]
  apply useD
  case hl => exact sideX
  case h => exact canon_ok ⟨nb, bb, mb, cb, lb, rfl, hb'', hnb, hye⟩
  case hR => exact fun _ _ _ h => h
  rintro v σ2 h4 e2 l2
  have n_e2 := e2.next
  try simp only [add_next, set_next, fresh_next, low_next, lw_next] at n_e2
  obtain ⟨b4, n4, c4, rfl, d4⟩ := h4
  replace d3 := d3.ext e2
  have E := (e0.trans e1).trans e2
  have hc1 : Sym.look cxH σ2 σ.next = some (.row [.bool na, .slice ba ma ca] 35) := by simp (disch := first | exact sideD | fail) only [go_sem, e1.look, e2.look]
  have hc2 : Sym.look cxH σ2 (σ.next + 1) = some (.row [.bool nb, .slice bb mb cb] 35) := by simp (disch := first | exact sideD | fail) only [go_sem, e1.look, e2.look]
  have d3' := dg_set (cs' := [.bool (decide (x < 0)), .slice b3 n3 c3]) (e' := 35) d3 hc1 rfl rfl
  have d4' := dg_set (cs' := [.bool (decide (x < 0)), .slice b3 n3 c3]) (e' := 35) d4 hc1 rfl rfl
  have hc3 : Sym.look cxH (σ2.set σ.next (.row [.bool (decide (x < 0)), .slice b3 n3 c3] 35)) (σ.next + 1) = some (.row [.bool nb, .slice bb mb cb] 35) := by simp (disch := first | exact sideD | fail) only [go_sem, hc2]
  have d3'' := dg_set (cs' := [.bool (decide (y < 0)), .slice b4 n4 c4]) (e' := 35) d3' hc3 rfl rfl
  have d4'' := dg_set (cs' := [.bool (decide (y < 0)), .slice b4 n4 c4]) (e' := 35) d4' hc3 rfl rfl
  have E2 : Ext' σ.fresh ((σ2.set σ.next (.row [.bool (decide (x < 0)), .slice b3 n3 c3] 35)).set (σ.next + 1) (.row [.bool (decide (y < 0)), .slice b4 n4 c4] 35)) := (E.set _ (Nat.le_refl _)).set _ (Nat.le_succ _)
  have hl3 := d3.len
  have hl4 := d4.len
  have hk3 := hx.len
  have hk4 := hy.len
  simp (disch := first | exact sideD | fail) only [go_sem, hc1, hc2, st_35', fa_35_0, lo_4_0]
  by_cases hx0 : x < 0
  · by_cases hy0 : y < 0
    · have t1 : decide (x < 0) = true := decide_eq_true hx0
      have t2 : decide (y < 0) = true := decide_eq_true hy0
      simp (disch := first | exact sideD | fail) only [go_sem, t1, t2, bne_self_eq_false, fa_35_0, lo_4_0, fa_35_1, lo_33_1]
      rw [t1] at d3'' d4''
      rw [t2] at d3'' d4''
      rw [t1, t2] at E2
      apply usep
      case h => exact compareDigits_ok d4'' d3'' (by omega) (by omega)
      rintro _ rfl
      simp (disch := first | exact sideD | fail) only [go_sem]
      refine ⟨?_, back_plain E2 rfl⟩
      rw [val_digits, val_digits]
      unfold cmp
      congr 2
      omega
    · have t1 : decide (x < 0) = true := decide_eq_true hx0
      have t2 : decide (y < 0) = false := decide_eq_false hy0
      have t3 : (true != false) = true := rfl
      simp (disch := first | exact sideD | fail) only [go_sem, t1, t2, t3, fa_35_0, lo_4_0, fa_35_1, lo_33_1]
      rw [t1, t2] at E2
      exact ⟨by rw [Int.sign_eq_neg_one_of_neg (by omega)], back_plain E2 rfl⟩
  · by_cases hy0 : y < 0
    · have t1 : decide (x < 0) = false := decide_eq_false hx0
      have t2 : decide (y < 0) = true := decide_eq_true hy0
      have t3 : (false != true) = true := rfl
      simp (disch := first | exact sideD | fail) only [go_sem, t1, t2, t3, fa_35_0, lo_4_0, fa_35_1, lo_33_1]
      rw [t1, t2] at E2
      exact ⟨by rw [Int.sign_eq_one_of_pos (by omega)], back_plain E2 rfl⟩
    · have t1 : decide (x < 0) = false := decide_eq_false hx0
      have t2 : decide (y < 0) = false := decide_eq_false hy0
      simp (disch := first | exact sideD | fail) only [go_sem, t1, t2, bne_self_eq_false, fa_35_0, lo_4_0, fa_35_1, lo_33_1]
      rw [t1] at d3'' d4''
      rw [t2] at d3'' d4''
      rw [t1, t2] at E2
      apply usep
      case h => exact compareDigits_ok d3'' d4'' (by omega) (by omega)
      rintro _ rfl
      simp (disch := first | exact sideD | fail) only [go_sem]
      refine ⟨?_, back_plain E2 rfl⟩
      rw [val_digits, val_digits]
      unfold cmp
      congr 2
      omega
theorem sz_zero {k : Nat} : Sz 0 k := pow_pos k
theorem rSign_ok {σ : St} {v : Value} {x : Int} (h : GInt σ v x) : C cxH 68 [v] σ fun v σ' => v = .int .i64 x.sign ∧ σ' = σ := by
  obtain ⟨na, ba, ma, ca, la, rfl, ha, hna, hx⟩ := h
  refine C_in (N := 6) (rs := [.tmp 2]) fn_68 (by rfl) (by rfl) (by rfl) (by rfl) (by rfl) (by rfl) ?_
  have e0 : Ext' σ.fresh (σ.fresh.add (.row [.bool na, .slice ba ma ca] 35)) := (Ext'.refl _).add _
  have ha' := (ha.ext (Ext'.to_fresh σ)).ext e0
  simp (disch := first | exact sideD | fail) only [go_sem, lo_35, bd_35_n]
  apply usep
  case h => exact rCompare_ok (y := 0) ⟨na, ba, ma, ca, la, rfl, ha', hna, hx⟩ (isInt_g (isInt_zero _) sz_zero)
  rintro _ rfl
  simp (disch := first | exact sideD | fail) only [go_sem, Int.sub_zero]
  exact ⟨trivial, back_plain e0 rfl⟩
end
section
theorem wi_succ {i : Nat} (h : i < 9223372036854775807) : IntKind.i64.wrap ((i : Int) + 1) = ((i + 1 : Nat) : Int) := wr64n (by omega) (by omega)
theorem wi_add {i j : Nat} (h : i + j < 9223372036854775808) : IntKind.i64.wrap ((i : Int) + (j : Int)) = ((i + j : Nat) : Int) := wr64n (by omega) (by omega)
theorem wi_nat {i : Nat} (h : i < 9223372036854775808) : IntKind.i64.wrap (i : Int) = (i : Int) := wr64n rfl h
theorem wu_nat {x : Nat} (h : x < 18446744073709551616) : IntKind.u64.wrap (x : Int) = (x : Int) := by rw [wu64]; omega
theorem wu_add {x y : Nat} (h : x + y < 18446744073709551616) : IntKind.u64.wrap ((x : Int) + (y : Int)) = ((x + y : Nat) : Int) := by rw [wu64]; omega
theorem wu_mul {x y : Nat} (h : x * y < 18446744073709551616) : IntKind.u64.wrap ((x : Int) * (y : Int)) = ((x * y : Nat) : Int) := by
  rw [wu64, ← Int.natCast_mul]; omega
theorem wu32_nat {x : Nat} (h : x < 4294967296) : IntKind.u32.wrap (x : Int) = (x : Int) := by rw [wr32]; omega
theorem ext2_0 {a b : Value} {K : Value → Prop} : Wext 0 (.tuple #[a, b]) K = K a := Wext_tuple rfl
theorem ext2_1 {a b : Value} {K : Value → Prop} : Wext 1 (.tuple #[a, b]) K = K b := Wext_tuple rfl
theorem ext3_0 {a b c : Value} {K : Value → Prop} : Wext 0 (.tuple #[a, b, c]) K = K a := Wext_tuple rfl
theorem ext3_1 {a b c : Value} {K : Value → Prop} : Wext 1 (.tuple #[a, b, c]) K = K b := Wext_tuple rfl
theorem ext3_2 {a b c : Value} {K : Value → Prop} : Wext 2 (.tuple #[a, b, c]) K = K c := Wext_tuple rfl
attribute [go_sem ↓] ext2_0 ext2_1 ext3_0 ext3_1 ext3_2
section
variable {σ : St} {p n c i : Nat} {k : IntKind} {l : List Nat} {e : TypeId}
theorem ia_own {K : Value → Prop} (hi : i < n) : Wia cxH 33 (.slice (some ⟨p, 0, none⟩) n c) (.int k (i : Int)) K = K (.pointer (some ⟨p, i, none⟩)) := by
  have : opIndexAddr cxH 33 (.slice (some ⟨p, 0, none⟩) n c) (.int k (i : Int)) = some (.pointer (some ⟨p, i, none⟩)) := by
    have hx : ixOf (.int k (i : Int)) n = some i := by
      show cond (Nat.ble (Nat.succ i) n) (some i) Option.none = _
      rw [Nat.ble_eq_true_of_le hi]
      rfl
    have ha := elAt_some (p := p) (o := 0) (j := i * 1)
    rw [Nat.zero_add, Nat.mul_one] at ha
    unfold opIndexAddr
    rw [ty_33]
    simp only [Option.bind_eq_bind, Option.bind_some]
    show (ty cxH 136).bind _ = _
    rw [ty_136]
    show (ixOf (.int k (i : Int)) n).bind _ = _
    rw [hx]
    show some (Value.pointer (some (elAt (some ⟨p, 0, none⟩) (i * 1)))) = _
    rw [Nat.mul_one, ha]
  unfold Wia
  rw [this, Wo_some]
theorem lo_136 {x : Nat} {K : Value → Prop} (h : l[i]? = some x) : Wo (loadO cxH 136 i (.row (l.map dig) e)) K = K (.int .u32 (x : Int)) := by
  have : loadO cxH 136 i (.row (l.map dig) e) = some (.int .u32 (x : Int)) := by
    unfold loadO
    rw [ty_136]
    show (l.map dig)[i]? = _
    rw [List.getElem?_map, h]
    rfl
  rw [this, Wo_some]
theorem splice_one {cs : List Value} {i : Nat} {v : Value} (h : i < cs.length) : splice cs i [v] = cs.set i v := by
  unfold splice
  rw [List.set_eq_take_append_cons_drop, if_pos h]
  simp
theorem st_136 {y : Nat} {K : Value → St → Prop} (h : i < l.length) : WstO cxH σ 136 p i (some (.row (l.map dig) e)) (.int .u32 (y : Int)) K = K undef (σ.set p (.row ((l.set i y).map dig) e)) := by
  refine WstO_of ?_
  unfold storeO
  rw [ty_136]
  show putO σ p i [.int .u32 (y : Int)] (.row (l.map dig) e) = _
  unfold putO
  show cond (Nat.ble (i + 1) (l.map dig).length) _ _ = _
  rw [Nat.ble_eq_true_of_le (by rw [List.length_map]; omega), splice_one (by rw [List.length_map]; exact h), List.map_set]
  rfl
theorem zeros_rep {v : Value} : ∀ m : Nat, zeros [v] m = List.replicate m v
  | 0 => rfl
  | m + 1 => by rw [zeros, zeros_rep m]; rfl
theorem mk_33 {m : Nat} {k' : IntKind} {K : Value → St → Prop} (hm : m ≤ 1000000) : Wmk cxH σ 33 (.int k (m : Int)) (.int k' (m : Int)) K = K (.slice (some ⟨σ.next, 0, none⟩) m m) (σ.add (.row ((List.replicate m 0).map dig) 136)) := by
  rw [Wmk_of ty_33 rfl ty_136 (z := .int .u32 0) rfl rfl ⟨by decide, by decide⟩ hm]
  show K _ (σ.add (.row (zeros [.int .u32 0] m) 136)) = _
  rw [zeros_rep, List.map_replicate]
  rfl
theorem dg_own (hc : Sym.look cxH σ p = some (.row (l.map dig) e)) (hl : ∀ x ∈ l, x < B) (hn : n = l.length) (hp : p < σ.next) (hcap : n < capBase) : Dg cxH σ (some ⟨p, 0, none⟩) n n l := by
  subst hn
  refine ⟨⟨by simp, .inl ⟨hcap, Nat.le_refl _⟩, (fun e => by cases e), fun a ha => ?_⟩, hl⟩
  injection ha with ha
  subst ha
  refine ⟨hp, fun _ => ⟨rfl, _, hc, ?_, ?_⟩⟩
  · show 0 + l.length * 1 ≤ (l.map dig).length
    simp
  · show ((l.map dig).drop 0).take (l.length * 1) = _
    rw [List.drop_zero, List.take_of_length_le (by simp)]
end
theorem dg_back2 {σ0 σ : St} {v : Value} {a : Addr} {n c : Nat} {l : List Nat} {m m' : Nat} (h : Dg cxH σ (some a) n c l) (hv : v = .slice (some a) m m') : Dg cxH (back σ0 v σ) (some a) n c l :=
  dg_back h (fun hp => by subst hv; cases hp)
theorem lt_rep {m : Nat} : ∀ x ∈ List.replicate m 0, x < B := fun x hx => by
  rw [(List.mem_replicate.1 hx).2]; exact B_pos
theorem add32_ok {σ : St} {x y z : Nat} (hx : x < B) (hy : y < B) (hz : z < B) :
    C cxH 242 [.int .u32 (x : Int), .int .u32 (y : Int), .int .u32 (z : Int)] σ fun v σ' => v = .tuple #[.int .u32 ((x + y + z) % B : Nat), .int .u32 ((x + y + z) / B : Nat)] ∧ σ' = σ := by
  have e1 : IntKind.u32.wrap (((x + y + z) / B : Nat) : Int) = (((x + y + z) / B : Nat) : Int) := wu32_nat (by
    simp only [B] at *
    omega)
  refine C_in (N := 22) (rs := [.tmp 6, .tmp 7]) fn_242 (by rfl) (by rfl) (by rfl) (by rfl) (by rfl) (by rfl) ?_
  simp only [B] at hx hy hz
  simp (disch := first | exact sideD | fail) only [go_sem, wu_nat, wu_add, wr32, shr32, e1]
  exact ⟨trivial, back_plain (Ext'.refl _) rfl⟩
theorem msb_nat {x : Nat} (hx : x < B) : (BitVec.ofInt 32 (x : Int)).msb = decide (2147483648 ≤ x) := by
  rw [BitVec.msb_eq_decide, BitVec.ofInt_natCast, BitVec.toNat_ofNat, Nat.mod_eq_of_lt hx]
theorem top_bit (v : BitVec 32) : ((v.toNat : Int)).fdiv (2 ^ min (Int.toNat 31) IntKind.u32.bits) = if v.msb then 1 else 0 := by
  show ((v.toNat : Int)).fdiv ((2 : Int) ^ 31) = _
  rw [Int.fdiv_eq_ediv_of_nonneg _ (by decide), BitVec.msb_eq_decide]
  have := v.isLt
  by_cases h : 2 ^ (32 - 1) ≤ v.toNat
  · rw [decide_eq_true h, if_pos rfl]
    omega
  · rw [decide_eq_false h]
    simp only [Bool.false_eq_true, if_false]
    omega
theorem wrap_bv (v : BitVec 32) : IntKind.u32.wrap (v.toNat : Int) = (v.toNat : Int) := wu32_nat v.isLt
theorem ofInt_bv (v : BitVec 32) : BitVec.ofInt 32 (v.toNat : Int) = v := by rw [BitVec.ofInt_natCast, BitVec.ofNat_toNat, BitVec.setWidth_eq]
def sb (x y z : Nat) : Nat := (x + B - y - z) % B
def sc (x y z : Nat) : Nat := if x < y + z then 1 else 0
theorem sb_eq {x y z : Nat} (hx : x < B) (hy : y < B) (hz : z ≤ 1) : sb x y z + y + z = x + B * sc x y z := by
  unfold sb sc
  simp only [B] at *
  split <;> omega
theorem sub32_ok {σ : St} {x y z : Nat} (hx : x < B) (hy : y < B) (hz : z ≤ 1) :
    C cxH 243 [.int .u32 (x : Int), .int .u32 (y : Int), .int .u32 (z : Int)] σ fun v σ' => v = .tuple #[.int .u32 (sb x y z : Nat), .int .u32 (sc x y z : Nat)] ∧ σ' = σ := by
  have hd : IntKind.u32.wrap (IntKind.u32.wrap ((x : Int) - (y : Int)) - (z : Int)) = (sb x y z : Nat) := by
    have w : ∀ a : Int, IntKind.u32.wrap a = a % 4294967296 := fun a => by unfold IntKind.wrap; simp [IntKind.bits, IntKind.signed]
    rw [w, w]
    unfold sb
    simp only [B] at *
    omega
  have hs : sb x y z < B := Nat.mod_lt _ (by decide)
  refine C_in (N := 25) (rs := [.tmp 6, .tmp 7]) fn_243 (by rfl) (by rfl) (by rfl) (by rfl) (by rfl) (by rfl) ?_
  simp (disch := first | exact sideD | fail) only [go_sem, hd, Wun_xor32, Wbin_and, Wbin_or, Wbin_xor, IntKind.bits, wrap_bv, ofInt_bv]
  rw [Wbin_shr (by decide), top_bit]
  simp (disch := first | exact sideD | fail) only [go_sem]
  refine ⟨?_, back_plain (Ext'.refl _) rfl⟩
  congr 3
  have m1 : (BitVec.ofInt 32 4294967295).msb = true := by decide
  have key : (((BitVec.ofInt 32 4294967295 ^^^ BitVec.ofInt 32 (x : Int)) &&& BitVec.ofInt 32 (y : Int)) ||| ((BitVec.ofInt 32 4294967295 ^^^ (BitVec.ofInt 32 (x : Int) ^^^ BitVec.ofInt 32 (y : Int))) &&& BitVec.ofInt 32 (sb x y z : Int))).msb = decide (x < y + z) := by
    simp only [BitVec.msb_or, BitVec.msb_and, BitVec.msb_xor, m1, msb_nat hx, msb_nat hy, msb_nat hs]
    have h := sb_eq hx hy hz
    unfold sc at h
    simp only [B] at *
    by_cases h1 : 2147483648 ≤ x <;> by_cases h2 : 2147483648 ≤ y <;> by_cases h3 : x < y + z <;> simp only [h1, h2, h3, decide_true, decide_false, if_true, if_false] at h ⊢ <;> simp <;> omega
  have fin : ∀ v : BitVec 32, v.msb = decide (x < y + z) → [Value.int .u32 (if v.msb = true then 1 else 0)] = [Value.int .u32 ((sc x y z : Nat) : Int)] := fun v hv => by
    rw [hv]
    unfold sc
    by_cases h3 : x < y + z <;> simp [h3]
  exact fin _ key
theorem rDigit_ok {σ : St} {b : Option Addr} {n c i : Nat} {l : List Nat} (h : Dg cxH σ b n c l) : C cxH 244 [.slice b n c, .int .i64 (i : Int)] σ fun v σ' => v = .int .u64 ((l.getD i 0 : Nat) : Int) ∧ σ' = σ := by
  have hl := h.len
  have d1 := h.ext (Ext'.to_fresh σ)
  refine C_in (N := 14) (rs := [.tmp 4]) fn_244 (by rfl) (by rfl) (by rfl) (by rfl) (by rfl) (by rfl) ?_
  simp (disch := first | exact sideD | fail) only [go_sem]
  by_cases hi : i < n
  · obtain ⟨u, hu⟩ : ∃ u, l[i]? = some u := ⟨l[i]'(by omega), List.getElem?_eq_getElem _⟩
    have e : ((i : Int) < (n : Int)) = True := eq_true (by omega)
    have hlt := lt_get h.lt hu
    have e2 : IntKind.u64.wrap (u : Int) = (u : Int) := wu_nat (by simp only [B] at *; omega)
    simp (disch := first | exact sideD | fail) only [go_sem, e, ia_33 d1, ld_136 d1 hu, e2]
    exact ⟨by rw [List.getD_eq_getElem?_getD, hu]; rfl, back_plain (Ext'.refl _) rfl⟩
  · have e : ((i : Int) < (n : Int)) = False := eq_false (by omega)
    simp (disch := first | exact sideD | fail) only [go_sem, e]
    exact ⟨by rw [List.getD_eq_getElem?_getD, List.getElem?_eq_none (by omega)]; rfl, back_plain (Ext'.refl _) rfl⟩
end
section
theorem ld_136' {σ : St} {b : Option Addr} {n c i : Nat} {l : List Nat} {K : Value → Prop} (h : Dg cxH σ b n c l) (hi : i < n) : Wld cxH σ 136 (.pointer (some (elAt b i))) K = K (.int .u32 ((l.getD i 0 : Nat) : Int)) := by
  have hl := h.len
  obtain ⟨u, hu⟩ : ∃ u, l[i]? = some u := ⟨l[i]'(by omega), List.getElem?_eq_getElem _⟩
  rw [ld_136 h hu, List.getD_eq_getElem?_getD, hu]
  rfl
theorem val_take_set {o : List Nat} {i s : Nat} (h : i < o.length) : val ((o.set i s).take (i + 1)) = val (o.take i) + B ^ i * s := by
  rw [val_take_succ (x := s) _ _ (by rw [List.getElem?_set_self h]), List.take_set_of_le (Nat.le_refl i)]
theorem getD_ge {l : List Nat} {i : Nat} (h : l.length ≤ i) : l.getD i 0 = 0 := by rw [List.getD_eq_getElem?_getD, List.getElem?_eq_none h]; rfl
theorem val_take_of_lt {l : List Nat} {i : Nat} (h : val l < B ^ i) : val (l.take i) = val l := by
  by_cases hl : l.length ≤ i
  · rw [List.take_of_length_le hl]
  · have h6 := val_take_drop l i (by omega)
    rcases Nat.eq_zero_or_pos (val (l.drop i)) with h7 | h7
    · rw [h7] at h6
      omega
    · have : B ^ i * 1 ≤ B ^ i * val (l.drop i) := Nat.mul_le_mul_left _ h7
      omega
theorem add_step {o la lb : List Nat} {i x y cr : Nat} (hi : i < o.length) (h : val (o.take i) + B ^ i * cr = val (la.take i) + val (lb.take i)) (hx : x = la.getD i 0) (hy : y = lb.getD i 0) :
    val ((o.set i ((x + y + cr) % B)).take (i + 1)) + B ^ (i + 1) * ((x + y + cr) / B) = val (la.take (i + 1)) + val (lb.take (i + 1)) := by
  rw [val_take_set hi, val_take_getD, val_take_getD, ← hx, ← hy, Nat.pow_succ, Nat.mul_assoc, Nat.add_assoc, ← Nat.mul_add, Nat.mod_add_div, Nat.mul_add, Nat.mul_add]
  omega
theorem sub_step {o la lb : List Nat} {i x y cr : Nat} (hi : i < o.length) (h : val (o.take i) + val (lb.take i) = val (la.take i) + B ^ i * cr) (hx : x = la.getD i 0) (hy : y = lb.getD i 0) (hxB : x < B) (hyB : y < B) (hc : cr ≤ 1) :
    val ((o.set i (sb x y cr)).take (i + 1)) + val (lb.take (i + 1)) = val (la.take (i + 1)) + B ^ (i + 1) * sc x y cr := by
  have e := congrArg (B ^ i * ·) (sb_eq hxB hyB hc)
  simp only [Nat.mul_add] at e
  rw [val_take_set hi, val_take_getD, val_take_getD, ← hx, ← hy, Nat.pow_succ, Nat.mul_assoc]
  omega
theorem sc_le {x y z : Nat} : sc x y z ≤ 1 := by unfold sc; split <;> omega
theorem plus_ok {σ : St} {b b' : Option Addr} {n c n' c' : Nat} {la lb : List Nat} (h : Dg cxH σ b n c la) (h2 : Dg cxH σ b' n' c' lb) (hn : n ≤ 500000) (hn' : n' ≤ 500000) :
    C cxH 194 [.slice b n c, .slice b' n' c'] σ fun v σ' => (∃ a m k l, v = .slice a m k ∧ Dg cxH σ' a m k l ∧ m ≤ max n n' + 1 ∧ val l = val la + val lb) ∧ Ext' σ σ' := by
  refine C_in (N := 53) (rs := [.tmp 4]) fn_194 (by rfl) (by rfl) (by rfl) (by rfl) (by rfl) (by rfl) ?_
  simp (disch := first | exact sideD | fail) only [go_sem]
  generalize hQ : seqQ cxH 53 _ _ = Q
  have main : ∀ (b b' : Option Addr) (n1 c n2 c' : Nat) (la' lb' : List Nat) (g : Fm), Dg cxH σ b n1 c la' → Dg cxH σ b' n2 c' lb' → n1 ≤ 500000 → n1 ≤ max n n' → n2 ≤ n1 → val la' + val lb' = val la + val lb → g 0 = .slice b n1 c → g 1 = .slice b' n2 c' → Q .normal g σ.fresh := by
    subst hQ
    clear h h2
    intro b b' n1 c n2 c' la' lb' g h h2 hn hm hnn hv g0 g1
    have hl := h.len
    have hl2 := h2.len
    simp (disch := first | exact sideD | fail) only [go_sem, g0, g1, wi_succ, mk_33]
    refine Wloop_inv (fun m g σ' => ∃ (i cr : Nat) (o : List Nat), m = n1 - i ∧ i ≤ n1 ∧ cr ≤ 1 ∧ g 0 = .slice b n1 c ∧ g 1 = .slice b' n2 c' ∧ g 5 = .slice (some ⟨σ.next, 0, none⟩) (n1 + 1) (n1 + 1) ∧ g 6 = .int .u32 ((cr : Nat) : Int) ∧ g 21 = .slice b n1 c ∧ g 22 = .int .i64 (n1 : Int) ∧
        g 23 = .int .i64 (i : Int) ∧ Sym.look cxH σ' σ.next = some (.row (o.map dig) 136) ∧ o.length = n1 + 1 ∧ (∀ x ∈ o, x < B) ∧ Ext' σ.fresh σ' ∧ σ.next < σ'.next ∧ val (o.take i) + B ^ i * cr = val (la'.take i) + val (lb'.take i)) n1 (by rfl)
      ⟨0, 0, List.replicate (n1 + 1) 0, rfl, Nat.zero_le _, by omega, by simp (disch := first | exact sideD | fail) only [go_sem, g0], by simp (disch := first | exact sideD | fail) only [go_sem, g1], by simp (disch := first | exact sideD | fail) only [go_sem], by simp (disch := first | exact sideD | fail) only [go_sem]; rfl, by simp (disch := first | exact sideD | fail) only [go_sem], by simp (disch := first | exact sideD | fail) only [go_sem], by simp (disch := first | exact sideD | fail) only [go_sem]; rfl, by simp (disch := first | exact sideD | fail) only [go_sem], by simp, lt_rep, (Ext'.refl _).add _, by simp (disch := first | exact sideD | fail) only [go_sem]; exact Nat.lt_succ_self _, by simp [val]⟩ ?_
    rintro m g σ' ⟨i, cr, o, rfl, hi, hcr, g0, g1, g5, g6, g21, g22, g23, hc, ho, hoB, E, hp, hval⟩
    have d1 := (h.ext (Ext'.to_fresh σ)).ext E
    have d2 := (h2.ext (Ext'.to_fresh σ)).ext E
    by_cases hin : i = n1
    · subst hin
      have e : ((i : Int) < (i : Int)) = False := eq_false (by omega)
      simp (disch := first | exact sideD | fail) only [go_sem, g0, g1, g5, g6, g21, g22, g23, e, ia_own, hc, st_136]
      have hB2 : ∀ x ∈ o.set i cr, x < B := lt_set hoB (by simp only [B]; omega)
      have hv2 : val (o.set i cr) = val la + val lb := by
        have := val_take_set (s := cr) (show i < o.length by omega)
        rw [List.take_of_length_le (by rw [List.length_set]; omega)] at this
        rw [this, hval, ← hv, List.take_of_length_le (by omega), List.take_of_length_le (by omega)]
      have E2 := E.set (i := σ.next) (.row ((o.set i cr).map dig) 136) (Nat.le_refl _)
      exact ⟨⟨_, _, _, o.set i cr, rfl, dg_back2 (dg_own (e := 136) (by simp (disch := first | exact sideD | fail) only [go_sem]) hB2 (by rw [List.length_set, ho]) hp (small_cap (by omega))) rfl, by omega, hv2⟩, back_ext E2⟩
    · have e : ((i : Int) < (n1 : Int)) = True := eq_true (by omega)
      have hxB : la'.getD i 0 < B := lt_getD h.lt
      have hcB : cr < B := by simp only [B]; omega
      by_cases hi2 : i < n2
      · have e2 : ((i : Int) < (n2 : Int)) = True := eq_true (by omega)
        have hyB : lb'.getD i 0 < B := lt_getD h2.lt
        simp (disch := first | exact sideD | fail) only [go_sem, g0, g1, g5, g6, g21, g22, g23, e, e2, ia_33 d1, ia_33 d2, ld_136' d1, ld_136' d2]
        apply usep
        case h => exact add32_ok hxB hyB hcB
        rintro _ rfl
        simp (disch := first | exact sideD | fail) only [go_sem, g0, g1, g5, g6, g21, g22, g23, ia_own, hc, st_136, wi_succ]
        refine ⟨n1 - (i + 1), by omega, i + 1, _, _, rfl, by omega, ?_, trivial, trivial, trivial, rfl, trivial, trivial, rfl, rfl, by rw [List.length_set, ho], lt_set hoB (Nat.mod_lt _ B_pos), E.set _ (Nat.le_refl _), hp, add_step (by omega) hval rfl rfl⟩
        simp only [B] at *
        omega
      · have e2 : ((i : Int) < (n2 : Int)) = False := eq_false (by omega)
        simp (disch := first | exact sideD | fail) only [go_sem, g0, g1, g5, g6, g21, g22, g23, e, e2, ia_33 d1, ld_136' d1]
        apply usep
        case h => exact add32_ok (y := 0) hxB (by decide) hcB
        rintro _ rfl
        simp (disch := first | exact sideD | fail) only [go_sem, g0, g1, g5, g6, g21, g22, g23, ia_own, hc, st_136, wi_succ]
        refine ⟨n1 - (i + 1), by omega, i + 1, _, _, rfl, by omega, ?_, trivial, trivial, trivial, rfl, trivial, trivial, rfl, rfl, by rw [List.length_set, ho], lt_set hoB (Nat.mod_lt _ B_pos), E.set _ (Nat.le_refl _), hp, add_step (by omega) hval rfl (getD_ge (by omega)).symm⟩
        simp only [B] at *
        omega
  refine Wcond_if (fun h3 => ?_) (fun h3 => ?_)
  · simp (disch := first | exact sideD | fail) only [go_sem]
    exact main b' b n' c' n c lb la _ h2 h hn' (by omega) (by omega) (by omega) (by simp (disch := first | exact sideD | fail) only [go_sem]) (by simp (disch := first | exact sideD | fail) only [go_sem])
  · simp (disch := first | exact sideD | fail) only [go_sem]
    exact main b b' n c n' c' la lb _ h h2 hn (by omega) (by omega) rfl (by simp (disch := first | exact sideD | fail) only [go_sem]) (by simp (disch := first | exact sideD | fail) only [go_sem])
theorem minus_ok {σ : St} {b b' : Option Addr} {n c n' c' : Nat} {la lb : List Nat} (h : Dg cxH σ b n c la) (h2 : Dg cxH σ b' n' c' lb) (hn : n ≤ 500000) (hle : val lb ≤ val la) :
    C cxH 195 [.slice b n c, .slice b' n' c'] σ fun v σ' => (∃ a k l, v = .slice a n k ∧ Dg cxH σ' a n k l ∧ val l = val la - val lb) ∧ Ext' σ σ' := by
  have hl := h.len
  have hl2 := h2.len
  refine C_in (N := 40) (rs := [.tmp 4]) fn_195 (by rfl) (by rfl) (by rfl) (by rfl) (by rfl) (by rfl) ?_
  simp (disch := first | exact sideD | fail) only [go_sem, mk_33]
  refine Wloop_inv (fun m g σ' => ∃ (i cr : Nat) (o : List Nat), m = n - i ∧ i ≤ n ∧ cr ≤ 1 ∧ g 1 = .slice b' n' c' ∧ g 5 = .slice (some ⟨σ.next, 0, none⟩) n n ∧ g 6 = .int .u32 ((cr : Nat) : Int) ∧ g 13 = .slice b n c ∧ g 14 = .int .i64 (n : Int) ∧
      g 15 = .int .i64 (i : Int) ∧ Sym.look cxH σ' σ.next = some (.row (o.map dig) 136) ∧ o.length = n ∧ (∀ x ∈ o, x < B) ∧ Ext' σ.fresh σ' ∧ σ.next < σ'.next ∧ val (o.take i) + val (lb.take i) = val (la.take i) + B ^ i * cr) n (by rfl)
    ⟨0, 0, List.replicate n 0, rfl, Nat.zero_le _, by omega, by simp (disch := first | exact sideD | fail) only [go_sem], by simp (disch := first | exact sideD | fail) only [go_sem], by simp (disch := first | exact sideD | fail) only [go_sem]; rfl, by simp (disch := first | exact sideD | fail) only [go_sem], by simp (disch := first | exact sideD | fail) only [go_sem], by simp (disch := first | exact sideD | fail) only [go_sem]; rfl, by simp (disch := first | exact sideD | fail) only [go_sem], by simp, lt_rep, (Ext'.refl _).add _, by simp (disch := first | exact sideD | fail) only [go_sem]; exact Nat.lt_succ_self _, by simp [val]⟩ ?_
  rintro m g σ' ⟨i, cr, o, rfl, hi, hcr, g1, g5, g6, g13, g14, g15, hc, ho, hoB, E, hp, hval⟩
  have d1 := (h.ext (Ext'.to_fresh σ)).ext E
  have d2 := (h2.ext (Ext'.to_fresh σ)).ext E
  by_cases hin : i = n
  · subst hin
    have e : ((i : Int) < (i : Int)) = False := eq_false (by omega)
    simp (disch := first | exact sideD | fail) only [go_sem, g1, g5, g6, g13, g14, g15, e]
    have hv2 : val o = val la - val lb := by
      rw [List.take_of_length_le (by omega), List.take_of_length_le (l := la) (by omega)] at hval
      have h4 := val_lt hoB
      have h5 := val_lt h.lt
      rw [← hl] at h5
      rw [ho] at h4
      have h6 := val_take_of_lt (l := lb) (i := i) (by omega)
      rw [h6] at hval
      have : cr = 0 ∨ cr = 1 := by omega
      rcases this with rfl | rfl <;> omega
    exact ⟨⟨_, _, o, rfl, dg_back2 (dg_own (e := 136) hc hoB ho.symm hp (small_cap (by omega))) rfl, hv2⟩, back_ext E⟩
  · have e : ((i : Int) < (n : Int)) = True := eq_true (by omega)
    have hxB : la.getD i 0 < B := lt_getD h.lt
    by_cases hi2 : i < n'
    · have e2 : ((i : Int) < (n' : Int)) = True := eq_true (by omega)
      have hyB : lb.getD i 0 < B := lt_getD h2.lt
      simp (disch := first | exact sideD | fail) only [go_sem, g1, g5, g6, g13, g14, g15, e, e2, ia_33 d1, ia_33 d2, ld_136' d1, ld_136' d2]
      apply usep
      case h => exact sub32_ok hxB hyB hcr
      rintro _ rfl
      simp (disch := first | exact sideD | fail) only [go_sem, g1, g5, g6, g13, g14, g15, ia_own, hc, st_136, wi_succ]
      exact ⟨n - (i + 1), by omega, i + 1, _, _, rfl, by omega, sc_le, trivial, trivial, rfl, trivial, trivial, rfl, rfl, by rw [List.length_set, ho], lt_set hoB (Nat.mod_lt _ B_pos), E.set _ (Nat.le_refl _), hp, sub_step (by omega) hval rfl rfl hxB hyB hcr⟩
    · have e2 : ((i : Int) < (n' : Int)) = False := eq_false (by omega)
      simp (disch := first | exact sideD | fail) only [go_sem, g1, g5, g6, g13, g14, g15, e, e2, ia_33 d1, ld_136' d1]
      apply usep
      case h => exact sub32_ok (y := 0) hxB (by decide) hcr
      rintro _ rfl
      simp (disch := first | exact sideD | fail) only [go_sem, g1, g5, g6, g13, g14, g15, ia_own, hc, st_136, wi_succ]
      exact ⟨n - (i + 1), by omega, i + 1, _, _, rfl, by omega, sc_le, trivial, trivial, rfl, trivial, trivial, rfl, rfl, by rw [List.length_set, ho], lt_set hoB (Nat.mod_lt _ B_pos), E.set _ (Nat.le_refl _), hp, sub_step (by omega) hval rfl (getD_ge (by omega)).symm hxB (by decide) hcr⟩
end
section
theorem Wop_max {ty' : TypeId} {g : Fm} {σ : St} {K : Value → St → Prop} {x y : Operand} {ts : Array TypeId} {a b : Nat} (hx : ev g x = .int .i64 (a : Int)) (hy : ev g y = .int .i64 (b : Int)) :
    Wop cxH ty' (.call { callee := .builtin .max, args := #[x, y], argTypes := ts }) g σ K = K (.int .i64 ((max a b : Nat) : Int)) σ := by
  refine Wop_val ?_
  show callMinMax cxH σ .max _ ty' [ev g x, ev g y] = _
  rw [hx, hy]
  have h1 : ∀ cs, builtin .max ts ty' cs #[.int .i64 (a : Int), .int .i64 (b : Int)] = pure (Next.value (.int .i64 (if (b : Int) > a then b else a))) := fun cs => by
    show (do pure (Next.value (← Builtin.max_ ts ty' #[.int .i64 (a : Int), .int .i64 (b : Int)]))) = _
    simp [Builtin.max_, Builtin.max2]
  have h2 : (if (b : Int) > a then (b : Int) else a) = ((max a b : Nat) : Int) := by split <;> omega
  unfold callMinMax
  show cond true (Sym.val σ (pureN cxH.P (builtin .max ts ty' _ #[.int .i64 (a : Int), .int .i64 (b : Int)]))) none = _
  rw [h1, h2]
  rfl
theorem radd_step {o la lb : List Nat} {i cr : Nat} (hi : i < o.length) (h : val (o.take i) + B ^ i * cr = val (la.take i) + val (lb.take i)) :
    val ((o.set i ((cr + la.getD i 0 + lb.getD i 0) % B)).take (i + 1)) + B ^ (i + 1) * ((cr + la.getD i 0 + lb.getD i 0) / B) = val (la.take (i + 1)) + val (lb.take (i + 1)) := by
  have := add_step (o := o) (la := la) (lb := lb) (i := i) (cr := cr) hi h rfl rfl
  rw [show cr + la.getD i 0 + lb.getD i 0 = la.getD i 0 + lb.getD i 0 + cr by omega]
  exact this
theorem radd_end {vo va vb P cr : Nat} (h : vo + B * P * cr = va + vb) (ha : va < P) (hb : vb < P) (hcr : cr ≤ 1) : vo = va + vb := by
  have h8 : 2 * P ≤ B * P := Nat.mul_le_mul_right _ (by decide)
  generalize B * P = Q at h h8
  have : cr = 0 ∨ cr = 1 := by omega
  rcases this with rfl | rfl <;> omega
theorem rsub_end {vo va vb P cr : Nat} (h : vo + vb = va + P * cr) (hle : vb ≤ va) (ho : vo < P) (hcr : cr ≤ 1) : vo = va - vb := by
  have : cr = 0 ∨ cr = 1 := by omega
  rcases this with rfl | rfl <;> omega
theorem rAdd_ok {σ : St} {b b' : Option Addr} {n c n' c' : Nat} {la lb : List Nat} (h : Dg cxH σ b n c la) (h2 : Dg cxH σ b' n' c' lb) (hn : n ≤ 500000) (hn' : n' ≤ 500000) :
    C cxH 196 [.slice b n c, .slice b' n' c'] σ fun v σ' => (∃ a m k, v = .slice a m k ∧ Dg cxH σ' a m k (digits (val la + val lb))) ∧ Ext' σ σ' := by
  have hl := h.len
  have hl2 := h2.len
  obtain ⟨N, hN⟩ : ∃ N, N = max n n' := ⟨_, rfl⟩
  refine C_in (N := 40) (rs := [.tmp 4]) fn_196 (by rfl) (by rfl) (by rfl) (by rfl) (by rfl) (by rfl) ?_
  simp (disch := first | exact sideD | fail) only [go_sem]
  rw [Wop_max (a := n) (b := n') (by simp (disch := first | exact sideD | fail) only [go_sem]) (by simp (disch := first | exact sideD | fail) only [go_sem]), ← hN]
  simp (disch := first | exact sideD | fail) only [go_sem, wi_succ, mk_33]
  refine Wloop_inv (fun m g σ' => ∃ (i cr : Nat) (o : List Nat), m = N + 1 - i ∧ i ≤ N + 1 ∧ cr ≤ 1 ∧ g 0 = .slice b n c ∧ g 1 = .slice b' n' c' ∧ g 5 = .int .i64 ((N + 1 : Nat) : Int) ∧ g 6 = .slice (some ⟨σ.next, 0, none⟩) (N + 1) (N + 1) ∧ g 7 = .int .u64 ((cr : Nat) : Int) ∧ g 8 = .int .i64 (i : Int) ∧
      Sym.look cxH σ' σ.next = some (.row (o.map dig) 136) ∧ o.length = N + 1 ∧ (∀ x ∈ o, x < B) ∧ Ext' σ.fresh σ' ∧ σ.next < σ'.next ∧ val (o.take i) + B ^ i * cr = val (la.take i) + val (lb.take i)) (N + 1) (by rfl)
    ⟨0, 0, List.replicate (N + 1) 0, rfl, Nat.zero_le _, by omega, by simp (disch := first | exact sideD | fail) only [go_sem], by simp (disch := first | exact sideD | fail) only [go_sem], by simp (disch := first | exact sideD | fail) only [go_sem], by simp (disch := first | exact sideD | fail) only [go_sem], by simp (disch := first | exact sideD | fail) only [go_sem]; rfl, by simp (disch := first | exact sideD | fail) only [go_sem]; rfl, by simp (disch := first | exact sideD | fail) only [go_sem], by simp, lt_rep, (Ext'.refl _).add _, by simp (disch := first | exact sideD | fail) only [go_sem]; exact Nat.lt_succ_self _, by simp [val]⟩ ?_
  rintro m g σ' ⟨i, cr, o, rfl, hi, hcr, g0, g1, g5, g6, g7, g8, hc, ho, hoB, E, hp, hval⟩
  have d1 := (h.ext (Ext'.to_fresh σ)).ext E
  have hlow := E.fresh_le
  have d2 := (h2.ext (Ext'.to_fresh σ)).ext E
  by_cases hin : i = N + 1
  · subst hin
    have e : (((N + 1 : Nat) : Int) < ((N + 1 : Nat) : Int)) = False := eq_false (by omega)
    simp (disch := first | exact sideD | fail) only [go_sem, g0, g1, g5, g6, g7, g8, e]
    have hv2 : val o = val la + val lb := by
      have h3 := val_lt h.lt
      have h4 := val_lt h2.lt
      have h5 : B ^ la.length ≤ B ^ N := Nat.pow_le_pow_right B_pos (by omega)
      have h6 : B ^ lb.length ≤ B ^ N := Nat.pow_le_pow_right B_pos (by omega)
      rw [List.take_of_length_le (by omega), List.take_of_length_le (l := la) (by omega), List.take_of_length_le (l := lb) (by omega), Nat.pow_succ'] at hval
      exact radd_end hval (Nat.lt_of_lt_of_le h3 h5) (Nat.lt_of_lt_of_le h4 h6) hcr
    have d3 : Dg cxH σ' (some ⟨σ.next, 0, none⟩) (N + 1) (N + 1) o := dg_own (e := 136) hc hoB ho.symm hp (small_cap (by omega))
    apply use
    case hl => exact sideX
    case h => exact trim_ok' d3 (by omega)
    rintro _ σ1 ⟨m, rfl, d4⟩ e1 l1
    have n_e1 := e1.next
    try simp only [add_next, set_next, fresh_next, low_next, lw_next] at n_e1
    simp (disch := first | exact sideD | fail) only [go_sem]
    rw [hv2] at d4
    exact ⟨⟨_, _, _, rfl, dg_back2 d4 rfl⟩, back_ext (E.trans e1)⟩
  · have e : ((i : Int) < ((N + 1 : Nat) : Int)) = True := eq_true (by omega)
    have hxB : la.getD i 0 < B := lt_getD h.lt
    have hyB : lb.getD i 0 < B := lt_getD h2.lt
    simp only [B] at hxB hyB
    simp (disch := first | exact sideD | fail) only [go_sem, g0, g1, g5, g6, g7, g8, e]
    apply usep
    case h => exact rDigit_ok d1
    rintro _ rfl
    simp (disch := first | exact sideD | fail) only [go_sem, g0, g1, g5, g6, g7, g8, wu_add]
    apply usep
    case h => exact rDigit_ok d2
    rintro _ rfl
    simp (disch := first | exact sideD | fail) only [go_sem, g0, g1, g5, g6, g7, g8, wu_add, wr32, ia_own, hc, st_136, shr32, wi_succ]
    refine ⟨N + 1 - (i + 1), by omega, i + 1, _, _, rfl, by omega, ?_, trivial, trivial, trivial, trivial, rfl, rfl, rfl, by rw [List.length_set, ho], lt_set hoB (Nat.mod_lt _ B_pos), E.set _ (Nat.le_refl _), hp, radd_step (by omega) hval⟩
    simp only [B]
    omega
theorem rsub_step {o la lb : List Nat} {i cr : Nat} (hi : i < o.length) (h : val (o.take i) + val (lb.take i) = val (la.take i) + B ^ i * cr) (hxB : la.getD i 0 < B) (hyB : lb.getD i 0 < B) (hc : cr ≤ 1) :
    val ((o.set i ((la.getD i 0 + B - lb.getD i 0 - cr) % B)).take (i + 1)) + val (lb.take (i + 1)) = val (la.take (i + 1)) + B ^ (i + 1) * (1 - (la.getD i 0 + B - lb.getD i 0 - cr) / B) := by
  have := sub_step (o := o) (la := la) (lb := lb) (i := i) (cr := cr) hi h rfl rfl hxB hyB hc
  have e : sc (la.getD i 0) (lb.getD i 0) cr = 1 - (la.getD i 0 + B - lb.getD i 0 - cr) / B := by
    unfold sc
    simp only [B] at *
    split <;> omega
  rw [← e]
  exact this
theorem wu_sub {x y : Nat} (h : y ≤ x) (h2 : x < 18446744073709551616) : IntKind.u64.wrap ((x : Int) - (y : Int)) = ((x - y : Nat) : Int) := by rw [wu64]; omega
theorem rSub_okF {σ : St} {b b' : Option Addr} {n c n' c' : Nat} {la lb : List Nat} (h : Dg cxH σ b n c la) (h2 : Dg cxH σ b' n' c' lb) (hn : n ≤ 500000) (hle : val lb ≤ val la) :
    C cxH 197 [.slice b n c, .slice b' n' c'] σ fun v σ' => (∃ m k, v = .slice (some ⟨σ.next, 0, none⟩) m k ∧ Dg cxH σ' (some ⟨σ.next, 0, none⟩) m k (digits (val la - val lb))) ∧ Ext' σ σ' := by
  have hl := h.len
  have hl2 := h2.len
  refine C_in (N := 38) (rs := [.tmp 4]) fn_197 (by rfl) (by rfl) (by rfl) (by rfl) (by rfl) (by rfl) ?_
  simp (disch := first | exact sideD | fail) only [go_sem, mk_33]
  refine Wloop_inv (fun m g σ' => ∃ (i cr : Nat) (o : List Nat), m = n - i ∧ i ≤ n ∧ cr ≤ 1 ∧ g 0 = .slice b n c ∧ g 1 = .slice b' n' c' ∧ g 5 = .slice (some ⟨σ.next, 0, none⟩) n n ∧ g 6 = .int .u64 ((cr : Nat) : Int) ∧ g 7 = .int .i64 (i : Int) ∧
      Sym.look cxH σ' σ.next = some (.row (o.map dig) 136) ∧ o.length = n ∧ (∀ x ∈ o, x < B) ∧ Ext' σ.fresh σ' ∧ σ.next < σ'.next ∧ val (o.take i) + val (lb.take i) = val (la.take i) + B ^ i * cr) n (by rfl)
    ⟨0, 0, List.replicate n 0, rfl, Nat.zero_le _, by omega, by simp (disch := first | exact sideD | fail) only [go_sem], by simp (disch := first | exact sideD | fail) only [go_sem], by simp (disch := first | exact sideD | fail) only [go_sem], by simp (disch := first | exact sideD | fail) only [go_sem]; rfl, by simp (disch := first | exact sideD | fail) only [go_sem]; rfl, by simp (disch := first | exact sideD | fail) only [go_sem], by simp, lt_rep, (Ext'.refl _).add _, by simp (disch := first | exact sideD | fail) only [go_sem]; exact Nat.lt_succ_self _, by simp [val]⟩ ?_
  rintro m g σ' ⟨i, cr, o, rfl, hi, hcr, g0, g1, g5, g6, g7, hc, ho, hoB, E, hp, hval⟩
  have d1 := (h.ext (Ext'.to_fresh σ)).ext E
  have hlow := E.fresh_le
  have d2 := (h2.ext (Ext'.to_fresh σ)).ext E
  by_cases hin : i = n
  · subst hin
    have e : ((i : Int) < (i : Int)) = False := eq_false (by omega)
    simp (disch := first | exact sideD | fail) only [go_sem, g0, g1, g5, g6, g7, e]
    have hv2 : val o = val la - val lb := by
      rw [List.take_of_length_le (by omega), List.take_of_length_le (l := la) (by omega)] at hval
      have h4 := val_lt hoB
      have h5 := val_lt h.lt
      rw [← hl] at h5
      rw [ho] at h4
      have h6 := val_take_of_lt (l := lb) (i := i) (by omega)
      rw [h6] at hval
      exact rsub_end hval hle h4 hcr
    have d3 : Dg cxH σ' (some ⟨σ.next, 0, none⟩) i i o := dg_own (e := 136) hc hoB ho.symm hp (small_cap (by omega))
    apply use
    case hl => exact sideX
    case h => exact trim_ok' d3 (by omega)
    rintro _ σ1 ⟨m, rfl, d4⟩ e1 l1
    have n_e1 := e1.next
    try simp only [add_next, set_next, fresh_next, low_next, lw_next] at n_e1
    simp (disch := first | exact sideD | fail) only [go_sem]
    rw [hv2] at d4
    exact ⟨⟨_, _, rfl, dg_back2 d4 rfl⟩, back_ext (E.trans e1)⟩
  · have e : ((i : Int) < (n : Int)) = True := eq_true (by omega)
    have hxB : la.getD i 0 < B := lt_getD h.lt
    have hyB : lb.getD i 0 < B := lt_getD h2.lt
    have st := rsub_step (by omega) hval hxB hyB hcr
    simp only [B] at hxB hyB
    have w1 : IntKind.u64.wrap (((la.getD i 0 : Nat) : Int) + 4294967296) = ((la.getD i 0 + B : Nat) : Int) := wu_add (y := 4294967296) (by omega)
    have w2 : IntKind.u64.wrap (1 - (((la.getD i 0 + B - lb.getD i 0 - cr) / B : Nat) : Int)) = ((1 - (la.getD i 0 + B - lb.getD i 0 - cr) / B : Nat) : Int) := wu_sub (x := 1) (by simp only [B]; omega) (by decide)
    have w3 : IntKind.u64.wrap (((la.getD i 0 + B : Nat) : Int) - ((lb.getD i 0 : Nat) : Int)) = ((la.getD i 0 + B - lb.getD i 0 : Nat) : Int) := wu_sub (by simp only [B]; omega) (by simp only [B]; omega)
    have w4 : IntKind.u64.wrap (((la.getD i 0 + B - lb.getD i 0 : Nat) : Int) - (cr : Int)) = ((la.getD i 0 + B - lb.getD i 0 - cr : Nat) : Int) := wu_sub (by simp only [B]; omega) (by simp only [B]; omega)
    simp (disch := first | exact sideD | fail) only [go_sem, g0, g1, g5, g6, g7, e]
    apply usep
    case h => exact rDigit_ok d1
    rintro _ rfl
    simp (disch := first | exact sideD | fail) only [go_sem, g0, g1, g5, g6, g7, w1]
    apply usep
    case h => exact rDigit_ok d2
    rintro _ rfl
    simp (disch := first | exact sideD | fail) only [go_sem, g0, g1, g5, g6, g7, w1, w3, w4, wr32, ia_own, hc, st_136, shr32, w2, wi_succ]
    exact ⟨n - (i + 1), by omega, i + 1, _, _, rfl, by omega, Nat.sub_le _ _, trivial, trivial, trivial, rfl, rfl, rfl, by rw [List.length_set, ho], lt_set hoB (Nat.mod_lt _ B_pos), E.set _ (Nat.le_refl _), hp, st⟩
theorem rSub_ok {σ : St} {b b' : Option Addr} {n c n' c' : Nat} {la lb : List Nat} (h : Dg cxH σ b n c la) (h2 : Dg cxH σ b' n' c' lb) (hn : n ≤ 500000) (hle : val lb ≤ val la) :
    C cxH 197 [.slice b n c, .slice b' n' c'] σ fun v σ' => (∃ a m k, v = .slice a m k ∧ Dg cxH σ' a m k (digits (val la - val lb))) ∧ Ext' σ σ' :=
  (rSub_okF h h2 hn hle).mono fun _ _ ⟨⟨m, k, h1, h3⟩, h4⟩ => ⟨⟨_, m, k, h1, h3⟩, h4⟩
end
end
end Go.Proofs.YtfdflggfffajaaaGreatDoor
