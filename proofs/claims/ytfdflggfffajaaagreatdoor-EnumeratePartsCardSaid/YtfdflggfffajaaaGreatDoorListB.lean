/- Decisions, coefficients of both, equal fractions. -/
import Derived.Test.YtfdflggfffajaaaGreatDoorListA
set_option linter.unusedVariables false
set_option linter.unusedSimpArgs false
set_option linter.unusedSectionVars false
namespace Go.Proofs.YtfdflggfffajaaaGreatDoor
open Go Go.Num Go.Proofs
open Go.Sym hiding val
noncomputable section
attribute [local congr] blk_congr Wpick_congr Wgd_congr Wgd'_congr Wcond_congr Wbin_congr Wun_congr Wconv_congr Wext_congr Wfa_congr Wfd_congr Wia_congr Wld_congr Wlen_congr Wst_congr Wbox_congr WldO_congr WstO_congr Wmk_congr Wsl_congr Wap_congr Wbs_congr Wbd_congr Wfn_congr C_congr
set_option maxHeartbeats 2000000
section
abbrev Dx := Int × Int × Bool
def encX (t : Dx) : List Value := [.int .i64 t.1, .int .i64 t.2.1, .bool t.2.2]
theorem encX_len (t : Dx) : (encX t).length = 3 := rfl
def SlX (σ : St) (v : Value) (D : List Dx) : Prop := ∃ b n c, v = .slice b n c ∧ Sl cxH σ 3 b n c (D.flatMap encX) ∧ n = D.length
theorem slX_ext {σ σ' : St} {v : Value} {l : List Dx} (h : SlX σ v l) (e : Ext' σ σ') : SlX σ' v l := by
  obtain ⟨b, n, c, rfl, h, hn⟩ := h
  exact ⟨b, n, c, rfl, h.ext e, hn⟩
def alw (l : List Int) (x : Dx) : Bool := bif x.2.2 then (decide (l.count x.1 = 0) && decide (l.count x.2.1 = 0)) || (decide (l.count x.1 = 1) && decide (l.count x.2.1 = 1) && folB l x.1 x.2.1) else !folB l x.1 x.2.1
def allowedB (D : List Dx) (l : List Int) : Bool := D.all (alw l)
section
variable {b : Nat} {K : Value → Prop}
theorem fa_91_0 : Wfa cxH 91 0 (.pointer (some ⟨b, 0, none⟩)) K = K (.pointer (some ⟨b, 0, none⟩)) := by
  have : opFieldAddr cxH 91 (.pointer (some ⟨b, 0, none⟩)) 0 = some (.pointer (some ⟨b, 0, none⟩)) := by unfold opFieldAddr; rw [ty_91]; rfl
  unfold Wfa
  rw [this, Wo_some]
theorem fa_91_1 : Wfa cxH 91 1 (.pointer (some ⟨b, 0, none⟩)) K = K (.pointer (some ⟨b, 1, none⟩)) := by
  have : opFieldAddr cxH 91 (.pointer (some ⟨b, 0, none⟩)) 1 = some (.pointer (some ⟨b, 1, none⟩)) := by unfold opFieldAddr; rw [ty_91]; rfl
  unfold Wfa
  rw [this, Wo_some]
theorem fa_91_2 : Wfa cxH 91 2 (.pointer (some ⟨b, 0, none⟩)) K = K (.pointer (some ⟨b, 2, none⟩)) := by
  have : opFieldAddr cxH 91 (.pointer (some ⟨b, 0, none⟩)) 2 = some (.pointer (some ⟨b, 2, none⟩)) := by unfold opFieldAddr; rw [ty_91]; rfl
  unfold Wfa
  rw [this, Wo_some]
theorem lo_4_2 {x y z : Value} {r : List Value} {e : TypeId} : Wo (loadO cxH 4 2 (.row (x :: y :: z :: r) e)) K = K z := lo_4 rfl
theorem lo_91 {x y z : Value} {e : TypeId} : Wo (loadO cxH 91 0 (.row [x, y, z] e)) K = K (.agg #[x, y, z]) := by
  have : loadO cxH 91 0 (.row [x, y, z] e) = some (.agg #[x, y, z]) := by unfold loadO; rw [ty_91]; rfl
  rw [this, Wo_some]
end
theorem allows_ok {σ : St} {w : Value} {l : List Int} {x y : Int} {t : Bool} (h : Li σ w l) (hl : l.length ≤ 1000000) : C cxH 31 [.agg #[.int .i64 x, .int .i64 y, .bool t], w] σ fun v σ' => v = .bool (alw l (x, y, t)) ∧ σ' = σ := by
  have e0 : Ext' σ.fresh (σ.fresh.add (.row [.int .i64 x, .int .i64 y, .bool t] 91)) := (Ext'.refl _).add _
  have h' := li_ext (li_ext h (Ext'.to_fresh σ)) e0
  obtain ⟨b, n, c, rfl, -⟩ := h
  refine C_in (N := 45) (rs := [.tmp 4]) fn_31 (by rfl) (by rfl) (by rfl) (by rfl) (by rfl) (by rfl) ?_
  cases t with
  | false =>
    simp (disch := first | exact sideD | fail) only [go_sem, fa_91_0, fa_91_1, fa_91_2, lo_4_2, lo_3_0, lo_3_1, Wun_not]
    apply usep
    case h => exact follows65_ok h' hl
    rintro _ rfl
    simp (disch := first | exact sideD | fail) only [go_sem, Wun_not]
    exact ⟨rfl, back_plain e0 rfl⟩
  | true =>
    simp (disch := first | exact sideD | fail) only [go_sem, fa_91_0, fa_91_1, fa_91_2, lo_4_2, lo_3_0, lo_3_1, Wun_not]
    apply usepD
    case hl => exact sideX
    case h => exact occurrences_ok h' hl
    rintro _ rfl
    simp (disch := first | exact sideD | fail) only [go_sem, fa_91_0, fa_91_1, fa_91_2, lo_4_2, lo_3_0, lo_3_1, Wun_not]
    apply usepD
    case hl => exact sideX
    case h => exact occurrences_ok h' hl
    rintro _ rfl
    have c1 : l.count x ≤ 1000000 := Nat.le_trans List.count_le_length hl
    have c2 : l.count y ≤ 1000000 := Nat.le_trans List.count_le_length hl
    have ha : alw l (x, y, true) = ((decide (l.count x = 0) && decide (l.count y = 0)) || (decide (l.count x = 1) && decide (l.count y = 1) && folB l x y)) := rfl
    rw [ha]
    generalize l.count x = p at c1 ⊢
    generalize l.count y = q at c2 ⊢
    have eB : Ext' σ.fresh ((σ.fresh.add (.row [.int .i64 x, .int .i64 y, .bool true] 91))) := e0
    by_cases h0 : p + q = 0
    · have h1 : p = 0 := by omega
      have h2 : q = 0 := by omega
      have e1 : (((p + q : Nat) : Int) = 0) = True := eq_true (by omega)
      simp (disch := first | exact sideD | fail) only [go_sem, wi_add, e1]
      refine ⟨?_, back_plain e0 rfl⟩
      rw [decide_eq_true h1, decide_eq_true h2]
      rfl
    · have e1 : (((p + q : Nat) : Int) = 0) = False := eq_false (by omega)
      have hz : (decide (p = 0) && decide (q = 0)) = false := by
        by_cases hp : p = 0
        · rw [decide_eq_false (p := q = 0) (by omega), Bool.and_false]
        · rw [decide_eq_false (p := p = 0) hp, Bool.false_and]
      rw [hz, Bool.false_or]
      by_cases hp1 : p = 1
      · have e2 : ((p : Int) = 1) = True := eq_true (by omega)
        by_cases hq1 : q = 1
        · have e3 : ((q : Int) = 1) = True := eq_true (by omega)
          simp (disch := first | exact sideD | fail) only [go_sem, wi_add, e1, e2, e3, fa_91_0, fa_91_1, lo_3_0, lo_3_1]
          apply usep
          case h => exact follows65_ok h' hl
          rintro _ rfl
          simp (disch := first | exact sideD | fail) only [go_sem]
          refine ⟨?_, back_plain e0 rfl⟩
          rw [decide_eq_true hp1, decide_eq_true hq1]
          rfl
        · have e3 : ((q : Int) = 1) = False := eq_false (by omega)
          simp (disch := first | exact sideD | fail) only [go_sem, wi_add, e1, e2, e3]
          refine ⟨?_, back_plain e0 rfl⟩
          rw [decide_eq_false hq1, Bool.and_false]
          rfl
      · have e2 : ((p : Int) = 1) = False := eq_false (by omega)
        simp (disch := first | exact sideD | fail) only [go_sem, wi_add, e1, e2]
        refine ⟨?_, back_plain e0 rfl⟩
        rw [decide_eq_false hp1]
        rfl
theorem clo30_ok {σ : St} {p : Nat} {bl : Option Addr} {nl cl : Nat} {l : List Int} {x y : Int} {t : Bool} (hp : Sym.look cxH σ p = some (.row [.slice bl nl cl] 42)) (hpn : p < σ.next) (h : Li σ (.slice bl nl cl) l) (hl : l.length ≤ 1000000) :
    C cxH 30 [.agg #[.int .i64 x, .int .i64 y, .bool t], .pointer (some ⟨p, 0, none⟩)] σ fun v σ' => v = .bool (!alw l (x, y, t)) ∧ σ' = σ := by
  have e0 : Ext' σ.fresh (σ.fresh.add (.row [.int .i64 x, .int .i64 y, .bool t] 91)) := (Ext'.refl _).add _
  have h' := li_ext (li_ext h (Ext'.to_fresh σ)) e0
  have hp' : Sym.look cxH (σ.fresh.add (.row [.int .i64 x, .int .i64 y, .bool t] 91)) p = some (.row [.slice bl nl cl] 42) := (look_add_lt hpn).trans hp
  refine C_in (N := 8) (rs := [.tmp 3]) fn_30 (by rfl) (by rfl) (by rfl) (by rfl) (by rfl) (by rfl) ?_
  simp (disch := first | exact sideD | fail) only [go_sem, lo_91, hp', lo_42_0]
  apply usep
  case h => exact allows_ok h' hl
  rintro _ rfl
  simp (disch := first | exact sideD | fail) only [go_sem, Wun_not]
  exact ⟨trivial, back_plain e0 rfl⟩
theorem call_30 {σ : St} {x y : Value} {K : Value → St → Prop} : Wfn cxH σ (.func (.func 30) #[] #[x]) [y] K = C cxH 30 [y, x] σ K := Wfn_fn (args := #[]) fn_30 rfl un_30
theorem indexX_ok {σ : St} {v : Value} {D : List Dx} {p : Nat} {bl : Option Addr} {nl cl : Nat} {l : List Int} (hD : SlX σ v D) (hDl : D.length ≤ 1000000) (hp : Sym.look cxH σ p = some (.row [.slice bl nl cl] 42)) (hpn : p < σ.next) (h : Li σ (.slice bl nl cl) l) (hl : l.length ≤ 1000000) :
    C cxH 64 [v, .func (.func 30) #[] #[.pointer (some ⟨p, 0, none⟩)]] σ fun v σ' => (∃ a, v = .int .i64 a ∧ (0 ≤ a ↔ allowedB D l = false)) ∧ σ' = σ := by
  obtain ⟨b, n, c, rfl, hD, rfl⟩ := hD
  have d1 := hD.ext (Ext'.to_fresh σ)
  have h' := li_ext h (Ext'.to_fresh σ)
  refine C_in (N := 19) (rs := [.tmp 4]) fn_64 (by rfl) (by rfl) (by rfl) (by rfl) (by rfl) (by rfl) ?_
  simp (disch := first | exact sideD | fail) only [go_sem]
  refine Wloop_inv (fun m g σ' => ∃ (i : Nat), m = D.length - i ∧ i ≤ D.length ∧ g 0 = .slice b D.length c ∧ g 1 = .func (.func 30) #[] #[.pointer (some ⟨p, 0, none⟩)] ∧ g 7 = .int .i64 (D.length : Int) ∧ g 8 = .int .i64 (i : Int) ∧ σ' = σ.fresh ∧ (D.take i).all (alw l) = true) D.length (by rfl)
    ⟨0, rfl, Nat.zero_le _, by simp (disch := first | exact sideD | fail) only [go_sem], by simp (disch := first | exact sideD | fail) only [go_sem], by simp (disch := first | exact sideD | fail) only [go_sem], by simp (disch := first | exact sideD | fail) only [go_sem]; rfl, rfl, rfl⟩ ?_
  rintro m g _ ⟨i, rfl, hi, g0, g1, g7, g8, rfl, hno⟩
  by_cases hin : i = D.length
  · subst hin
    have e : ((D.length : Int) < (D.length : Int)) = False := eq_false (by omega)
    simp (disch := first | exact sideD | fail) only [go_sem, g0, g1, g7, g8, e]
    rw [List.take_of_length_le (Nat.le_refl _)] at hno
    refine ⟨⟨_, rfl, ?_⟩, back_plain (Ext'.refl _) rfl⟩
    unfold allowedB
    rw [hno]
    simp
  · have e : ((i : Int) < (D.length : Int)) = True := eq_true (by omega)
    have hil : i < D.length := by omega
    obtain ⟨t, ht⟩ : ∃ t, D[i]? = some t := ⟨_, List.getElem?_eq_getElem hil⟩
    have t0 : (D.flatMap encX)[i * 3]? = some (.int .i64 t.1) := getElem?_flatMap encX_len D i 0 (by omega) t ht
    have t1 : (D.flatMap encX)[i * 3 + 1]? = some (.int .i64 t.2.1) := getElem?_flatMap encX_len D i 1 (by omega) t ht
    have t2 : (D.flatMap encX)[i * 3 + 2]? = some (.bool t.2.2) := getElem?_flatMap encX_len D i 2 (by omega) t ht
    obtain ⟨x, y, z⟩ := t
    simp (disch := first | exact sideD | fail) only [go_sem, g0, g1, g7, g8, e, ia_24 d1 hil, le_91 d1 t0 t1 t2, call_30]
    apply usep
    case h => exact clo30_ok hp hpn h' hl
    rintro _ rfl
    cases hv : alw l (x, y, z) with
    | true =>
      simp (disch := first | exact sideD | fail) only [go_sem, g0, g1, g7, g8, hv, wi_succ]
      refine ⟨D.length - (i + 1), by omega, i + 1, rfl, by omega, trivial, trivial, trivial, rfl, trivial, ?_⟩
      rw [take_snoc ht, List.all_append, hno]
      simp [hv]
    | false =>
      simp (disch := first | exact sideD | fail) only [go_sem, g0, g1, g7, g8, hv]
      refine ⟨⟨_, rfl, ?_⟩, back_plain (Ext'.refl _) rfl⟩
      have : allowedB D l = false := by
        unfold allowedB
        rw [List.all_eq_false]
        exact ⟨_, List.mem_of_getElem? ht, by simp [hv]⟩
      rw [this]
      simp
theorem containsX_ok {σ : St} {v : Value} {D : List Dx} {p : Nat} {bl : Option Addr} {nl cl : Nat} {l : List Int} (hD : SlX σ v D) (hDl : D.length ≤ 1000000) (hp : Sym.look cxH σ p = some (.row [.slice bl nl cl] 42)) (hpn : p < σ.next) (h : Li σ (.slice bl nl cl) l) (hl : l.length ≤ 1000000) :
    C cxH 29 [v, .func (.func 30) #[] #[.pointer (some ⟨p, 0, none⟩)]] σ fun v σ' => v = .bool (!allowedB D l) ∧ σ' = σ := by
  have hD' := slX_ext hD (Ext'.to_fresh σ)
  have h' := li_ext h (Ext'.to_fresh σ)
  obtain ⟨b, n, c, rfl, -⟩ := hD
  refine C_in (N := 9) (rs := [.tmp 4]) fn_29 (by rfl) (by rfl) (by rfl) (by rfl) (by rfl) (by rfl) ?_
  simp (disch := first | exact sideD | fail) only [go_sem]
  apply usep
  case h => exact indexX_ok hD' hDl hp hpn h' hl
  rintro _ ⟨a, rfl, ha⟩
  simp (disch := first | exact sideD | fail) only [go_sem]
  refine ⟨?_, back_plain (Ext'.refl _) rfl⟩
  cases hB : allowedB D l with
  | true => rw [hB] at ha; rw [decide_eq_false (fun h => by cases ha.1 h)]; rfl
  | false => rw [decide_eq_true (ha.2 hB)]; rfl
end
section
theorem allowed_false {D : List Dx} {l : List Int} {i : Nat} {t : Dx} (ht : D[i]? = some t) (hv : alw l t = false) : allowedB D l = false := by
  unfold allowedB
  rw [List.all_eq_false]
  exact ⟨_, List.mem_of_getElem? ht, by simp [hv]⟩
theorem al_42 {σ : St} {K : Value → St → Prop} : Wal cxH σ 42 K = K (.pointer (some ⟨σ.next, 0, none⟩)) (σ.add (.row [.slice none 0 0] 42)) := Wal_of ty_42 rfl
theorem st_42 {σ : St} {p : Nat} {e : TypeId} {K : Value → St → Prop} {x : Value} {b : Option Addr} {n c : Nat} : WstO cxH σ 42 p 0 (some (.row [x] e)) (.slice b n c) K = K undef (σ.set p (.row [.slice b n c] e)) :=
  WstO_of (by unfold storeO; rw [ty_42]; rfl)
theorem al_91 {σ : St} {K : Value → St → Prop} : Wal cxH σ 91 K = K (.pointer (some ⟨σ.next, 0, none⟩)) (σ.add (.row [.int .i64 0, .int .i64 0, .bool false] 91)) := Wal_of ty_91 rfl
theorem st_91 {σ : St} {p : Nat} {e : TypeId} {K : Value → St → Prop} {x y z : Value} {a b : Int} {d : Bool} : WstO cxH σ 91 p 0 (some (.row [x, y, z] e)) (.agg #[.int .i64 a, .int .i64 b, .bool d]) K = K undef (σ.set p (.row [.int .i64 a, .int .i64 b, .bool d] e)) :=
  WstO_of (by unfold storeO; rw [ty_91]; rfl)
theorem Wfnv_eq {fn : Fn} {f c : List Value} {K : Value → Prop} : Wfnv fn f c K = K (.func fn ⟨f⟩ ⟨c⟩) := rfl
theorem slP_agg {σ : St} {v : Value} {L : List (List Tk)} (h : SlP σ v L) : ∃ s b n c, v = .agg #[.string s, .slice b n c] := by
  obtain ⟨s, b, n, c, ds, rfl, -⟩ := h
  exact ⟨_, _, _, _, rfl⟩
theorem li_slice {σ : St} {v : Value} {l : List Int} (h : Li σ v l) : ∃ b n c, v = .slice b n c := by
  obtain ⟨b, n, c, rfl, -⟩ := h
  exact ⟨_, _, _, rfl⟩
theorem flownL_le {L : List (List Tk)} (hF : L.flatten.length ≤ 1000) : (flownL L).length ≤ 1000000 := Nat.le_trans (flown_le _) (by omega)
theorem allowed_ok {σ : St} {v w : Value} {D : List Dx} {L : List (List Tk)} (hD : SlX σ v D) (hDl : D.length ≤ 1000000) (h : SlP σ w L) (hL : L.length ≤ 1000) (hF : L.flatten.length ≤ 1000) : C cxH 12 [v, w] σ fun v σ' => v = .bool (allowedB D (flownL L)) ∧ σ' = σ := by
  obtain ⟨s, b, n, c, rfl⟩ := slP_agg h
  have e0 : Ext' σ.fresh (σ.fresh.add (.row [.string s, .slice b n c] 29)) := (Ext'.refl _).add _
  have hD' := slX_ext (slX_ext hD (Ext'.to_fresh σ)) e0
  have h' := slP_ext (slP_ext h (Ext'.to_fresh σ)) e0
  obtain ⟨bD, nD, cD, rfl, -⟩ := hD
  refine C_in (N := 12) (rs := [.tmp 4]) fn_12 (by rfl) (by rfl) (by rfl) (by rfl) (by rfl) (by rfl) ?_
  simp (disch := first | exact sideD | fail) only [go_sem, lo_29]
  apply use
  case hl => exact sideX
  case h => exact operated_ok h' hL hF
  rintro vo σ1 ho e1 l1
  have n_e1 := e1.next
  try simp only [add_next, set_next, fresh_next, low_next, lw_next] at n_e1
  obtain ⟨bo, no, co, rfl⟩ := li_slice ho
  simp (disch := first | exact sideD | fail) only [go_sem, al_42, st_42, Wop_mf, Wfnv_eq]
  have e2 : Ext' σ1 ((σ1.add (.row [.slice none 0 0] 42)).set σ1.next (.row [.slice bo no co] 42)) := ((Ext'.refl _).add _).set _ (Nat.le_refl _)
  have hD2 := slX_ext (slX_ext hD' e1) e2
  have k2 : Sym.look cxH ((σ1.add (.row [.slice none 0 0] 42)).set σ1.next (.row [.slice bo no co] 42)) σ1.next = some (.row [.slice bo no co] 42) := look_set rfl
  have n2 : σ1.next < ((σ1.add (.row [.slice none 0 0] 42)).set σ1.next (.row [.slice bo no co] 42)).next := Nat.lt_succ_self _
  have ho2 := li_ext ho e2
  apply usep
  case h => exact containsX_ok hD2 hDl k2 n2 ho2 (flownL_le hF)
  rintro _ rfl
  simp (disch := first | exact sideD | fail) only [go_sem, Wun_not]
  exact ⟨by rw [Bool.not_not], back_plain ((e0.trans e1).trans e2) rfl⟩
theorem rAllowed_ok {σ : St} {v w : Value} {D : List Dx} {L : List (List Tk)} (hD : SlX σ v D) (hDl : D.length ≤ 1000000) (h : SlP σ w L) (hL : L.length ≤ 1000) (hF : L.flatten.length ≤ 1000) : C cxH 13 [v, w] σ fun v σ' => v = .bool (allowedB D (flownL L)) ∧ σ' = σ := by
  obtain ⟨s, b, n, c, rfl⟩ := slP_agg h
  have e0 : Ext' σ.fresh (σ.fresh.add (.row [.string s, .slice b n c] 29)) := (Ext'.refl _).add _
  have hD' := slX_ext (slX_ext hD (Ext'.to_fresh σ)) e0
  have h' := slP_ext (slP_ext h (Ext'.to_fresh σ)) e0
  obtain ⟨bD, nD, cD, rfl, -, rfl⟩ := hD
  refine C_in (N := 69) (rs := [.tmp 4]) fn_13 (by rfl) (by rfl) (by rfl) (by rfl) (by rfl) (by rfl) ?_
  simp (disch := first | exact sideD | fail) only [go_sem, lo_29]
  apply use
  case hl => exact sideX
  case h => exact rOperated_ok h' hL hF
  rintro vo σ1 ho e1 l1
  have n_e1 := e1.next
  try simp only [add_next, set_next, fresh_next, low_next, lw_next] at n_e1
  obtain ⟨bo, no, co, rfl⟩ := li_slice ho
  have hl := flownL_le hF
  generalize flownL L = l at ho hl ⊢
  obtain ⟨_, _, _, eD, d0, -⟩ := slX_ext hD' e1
  injection eD with eD1 eD2 eD3
  subst eD1
  subst eD2
  subst eD3
  simp (disch := first | exact sideD | fail) only [go_sem]
  refine Wloop_inv (fun m g σ' => ∃ (i : Nat), m = D.length - i ∧ i ≤ D.length ∧ g 0 = .slice bD D.length cD ∧ g 5 = .slice bo no co ∧ g 6 = .int .i64 (i : Int) ∧ Ext' σ1 σ' ∧ (D.take i).all (alw l) = true) D.length (by rfl)
    ⟨0, rfl, Nat.zero_le _, by simp (disch := first | exact sideD | fail) only [go_sem], by simp (disch := first | exact sideD | fail) only [go_sem], by simp (disch := first | exact sideD | fail) only [go_sem]; rfl, Ext'.refl _, rfl⟩ ?_
  rintro m g σ' ⟨i, rfl, hi, g0, g5, g6, E, hno⟩
  have d1 := d0.ext E
  have l2 := E.le l1
  by_cases hin : i = D.length
  · subst hin
    have e : ((D.length : Int) < (D.length : Int)) = False := eq_false (by omega)
    simp (disch := first | exact sideD | fail) only [go_sem, g0, g5, g6, e]
    rw [List.take_of_length_le (Nat.le_refl _)] at hno
    refine ⟨?_, back_plain ((e0.trans e1).trans E) rfl⟩
    unfold allowedB
    rw [hno]
  · have e : ((i : Int) < (D.length : Int)) = True := eq_true (by omega)
    have hil : i < D.length := by omega
    obtain ⟨t, ht⟩ : ∃ t, D[i]? = some t := ⟨_, List.getElem?_eq_getElem hil⟩
    have t0 : (D.flatMap encX)[i * 3]? = some (.int .i64 t.1) := getElem?_flatMap encX_len D i 0 (by omega) t ht
    have t1 : (D.flatMap encX)[i * 3 + 1]? = some (.int .i64 t.2.1) := getElem?_flatMap encX_len D i 1 (by omega) t ht
    have t2 : (D.flatMap encX)[i * 3 + 2]? = some (.bool t.2.2) := getElem?_flatMap encX_len D i 2 (by omega) t ht
    obtain ⟨x, y, t⟩ := t
    have e3 : Ext' σ' ((σ'.add (.row [.int .i64 0, .int .i64 0, .bool false] 91)).set σ'.next (.row [.int .i64 x, .int .i64 y, .bool t] 91)) := ((Ext'.refl _).add _).set _ (Nat.le_refl _)
    have k3 : Sym.look cxH ((σ'.add (.row [.int .i64 0, .int .i64 0, .bool false] 91)).set σ'.next (.row [.int .i64 x, .int .i64 y, .bool t] 91)) σ'.next = some (.row [.int .i64 x, .int .i64 y, .bool t] 91) := look_set rfl
    have E3 := E.trans e3
    have l3 := E3.le l1
    simp (disch := first | exact sideX | fail) only [go_sem, g0, g5, g6, e, ia_24 d1 hil, le_91 d1 t0 t1 t2, al_91, st_91]
    generalize (σ'.add (.row [.int .i64 0, .int .i64 0, .bool false] 91)).set σ'.next (.row [.int .i64 x, .int .i64 y, .bool t] 91) = σ3 at e3 k3 E3 l3 ⊢
    have ho3 := li_ext ho E3
    simp (disch := first | exact sideD | fail) only [go_sem, g0, g5, g6, k3, fa_91_0, fa_91_1, lo_3_0, lo_3_1]
    apply usepD
    case hl => exact sideX
    case h => exact count_ok ho3 hl
    rintro _ rfl
    simp (disch := first | exact sideD | fail) only [go_sem, g0, g5, g6, k3, fa_91_0, fa_91_1, lo_3_0, lo_3_1]
    apply usepD
    case hl => exact sideX
    case h => exact count_ok ho3 hl
    rintro _ rfl
    cases t with
    | false =>
      simp (disch := first | exact sideD | fail) only [go_sem, g0, g5, g6, k3, fa_91_0, fa_91_1, fa_91_2, lo_3_0, lo_3_1, lo_4_2, Wun_not]
      apply usep
      case h => exact follows33_ok ho3 hl
      rintro _ rfl
      cases hB : folB l x y with
      | true =>
        have hv : alw l (x, y, false) = false := by show (!folB l x y) = false; rw [hB]; rfl
        simp (disch := first | exact sideD | fail) only [go_sem, g0, g5, g6, hB]
        exact ⟨by rw [allowed_false ht hv], back_plain ((e0.trans e1).trans E3) rfl⟩
      | false =>
        have hv : alw l (x, y, false) = true := by show (!folB l x y) = true; rw [hB]; rfl
        simp (disch := first | exact sideD | fail) only [go_sem, g0, g5, g6, hB, wi_succ]
        refine ⟨D.length - (i + 1), by omega, i + 1, rfl, by omega, trivial, trivial, rfl, E3, ?_⟩
        rw [take_snoc ht, List.all_append, hno]
        simp [hv]
    | true =>
      have ha : alw l (x, y, true) = ((decide (l.count x = 0) && decide (l.count y = 0)) || (decide (l.count x = 1) && decide (l.count y = 1) && folB l x y)) := rfl
      generalize l.count x = p at ha ⊢
      generalize l.count y = q at ha ⊢
      by_cases h0 : p = 0 ∧ q = 0
      · have e5 : ((p : Int) = 0) = True := eq_true (by omega)
        have e6 : ((q : Int) = 0) = True := eq_true (by omega)
        have hv : alw l (x, y, true) = true := by rw [ha, decide_eq_true h0.1, decide_eq_true h0.2]; rfl
        simp (disch := first | exact sideD | fail) only [go_sem, g0, g5, g6, k3, e5, e6, fa_91_0, fa_91_1, fa_91_2, lo_3_0, lo_3_1, lo_4_2, Wun_not, wi_succ]
        refine ⟨D.length - (i + 1), by omega, i + 1, rfl, by omega, trivial, trivial, rfl, E3, ?_⟩
        rw [take_snoc ht, List.all_append, hno]
        simp [hv]
      · have hz : (decide (p = 0) && decide (q = 0)) = false := by
          by_cases hp : p = 0
          · rw [decide_eq_false (p := q = 0) (by omega), Bool.and_false]
          · rw [decide_eq_false (p := p = 0) hp, Bool.false_and]
        rw [hz, Bool.false_or] at ha
        have rest : p = 0 ∨ p ≠ 0 := by omega
        by_cases hp1 : p = 1
        · have e5 : ((p : Int) = 0) = False := eq_false (by omega)
          have e7 : ((p : Int) = 1) = True := eq_true (by omega)
          by_cases hq1 : q = 1
          · have e8 : ((q : Int) = 1) = True := eq_true (by omega)
            simp (disch := first | exact sideD | fail) only [go_sem, g0, g5, g6, k3, e5, e7, e8, fa_91_0, fa_91_1, fa_91_2, lo_3_0, lo_3_1, lo_4_2, Wun_not]
            apply usep
            case h => exact follows33_ok ho3 hl
            rintro _ rfl
            cases hB : folB l x y with
            | true =>
              have hv : alw l (x, y, true) = true := by rw [ha, decide_eq_true hp1, decide_eq_true hq1, hB]; rfl
              simp (disch := first | exact sideD | fail) only [go_sem, g0, g5, g6, k3, hB, fa_91_0, fa_91_1, fa_91_2, lo_3_0, lo_3_1, lo_4_2, Wun_not, wi_succ]
              refine ⟨D.length - (i + 1), by omega, i + 1, rfl, by omega, trivial, trivial, rfl, E3, ?_⟩
              rw [take_snoc ht, List.all_append, hno]
              simp [hv]
            | false =>
              have hv : alw l (x, y, true) = false := by rw [ha, hB, Bool.and_false]
              simp (disch := first | exact sideD | fail) only [go_sem, g0, g5, g6, k3, hB, Wun_not]
              exact ⟨by rw [allowed_false ht hv], back_plain ((e0.trans e1).trans E3) rfl⟩
          · have e8 : ((q : Int) = 1) = False := eq_false (by omega)
            have hv : alw l (x, y, true) = false := by rw [ha, decide_eq_false hq1, Bool.and_false]; rfl
            simp (disch := first | exact sideD | fail) only [go_sem, g0, g5, g6, k3, e5, e7, e8, fa_91_0, fa_91_1, fa_91_2, lo_3_0, lo_3_1, lo_4_2, Wun_not]
            exact ⟨by rw [allowed_false ht hv], back_plain ((e0.trans e1).trans E3) rfl⟩
        · have e7 : ((p : Int) = 1) = False := eq_false (by omega)
          have hv : alw l (x, y, true) = false := by rw [ha, decide_eq_false hp1]; rfl
          by_cases hp0 : p = 0
          · have e5 : ((p : Int) = 0) = True := eq_true (by omega)
            have e6 : ((q : Int) = 0) = False := eq_false (by omega)
            simp (disch := first | exact sideD | fail) only [go_sem, g0, g5, g6, k3, e5, e6, e7, fa_91_0, fa_91_1, fa_91_2, lo_3_0, lo_3_1, lo_4_2, Wun_not]
            exact ⟨by rw [allowed_false ht hv], back_plain ((e0.trans e1).trans E3) rfl⟩
          · have e5 : ((p : Int) = 0) = False := eq_false (by omega)
            simp (disch := first | exact sideD | fail) only [go_sem, g0, g5, g6, k3, e5, e7, fa_91_0, fa_91_1, fa_91_2, lo_3_0, lo_3_1, lo_4_2, Wun_not]
            exact ⟨by rw [allowed_false ht hv], back_plain ((e0.trans e1).trans E3) rfl⟩
end
section
def coefV (l R : List Int) (d : Int) : Value := if d < 2 then .tuple #[.int .i64 0, .int .i64 5] else .tuple #[.int .i64 (cf l R d : Nat), .int .i64 0]
theorem coefficientE_ok {σ : St} {v w : Value} {R : List Int} {d : Int} {L : List (List Tk)} (h : Cu σ v R d) (hR : R.length ≤ 1000000) (h2 : SlP σ w L) (hL : L.length ≤ 1000) (hF : L.flatten.length ≤ 1000) : C cxH 17 [v, w] σ fun v σ' => v = coefV (flownL L) R d ∧ σ' = σ := by
  obtain ⟨s, b2, n2, c2, rfl⟩ := slP_agg h2
  obtain ⟨b, n, c, rfl, -⟩ := id h
  have e0 : Ext' σ.fresh ((σ.fresh.add (.row [.slice b n c, .int .i64 d] 50)).add (.row [.string s, .slice b2 n2 c2] 29)) := ((Ext'.refl _).add _).add _
  have h' := cu_ext (cu_ext h (Ext'.to_fresh σ)) e0
  have h2' := slP_ext (slP_ext h2 (Ext'.to_fresh σ)) e0
  refine C_in (N := 13) (rs := [.tmp 4, .tmp 5]) fn_17 (by rfl) (by rfl) (by rfl) (by rfl) (by rfl) (by rfl) ?_
  unfold coefV
  by_cases hd : d < 2
  · have e : (d < 2) = True := eq_true hd
    rw [if_pos hd]
    simp (disch := first | exact sideD | fail) only [go_sem, e, fa_50_1, lo_3_1]
    exact ⟨trivial, back_plain e0 rfl⟩
  · have e : (d < 2) = False := eq_false hd
    rw [if_neg hd]
    simp (disch := first | exact sideD | fail) only [go_sem, e, fa_50_1, lo_3_1, lo_50, lo_29]
    apply useD
    case hl => exact sideX
    case h => exact operated_ok h2' hL hF
    case hR => exact fun _ _ _ h => h
    rintro vo σ1 ho e1 l1
    have n_e1 := e1.next
    try simp only [add_next, set_next, fresh_next, low_next, lw_next] at n_e1
    obtain ⟨bo, no, co, rfl⟩ := li_slice ho
    have h3 := cu_ext h' e1
    simp (disch := first | exact sideD | fail) only [go_sem]
    apply usepD
    case hl => exact sideX
    case h => exact coefficient_ok h3 ho (flownL_le hF) hR (by omega)
    rintro _ rfl
    simp (disch := first | exact sideD | fail) only [go_sem]
    exact ⟨trivial, back_plain (e0.trans e1) rfl⟩
theorem rCoefficient_ok {σ : St} {v w : Value} {R : List Int} {d : Int} {L : List (List Tk)} (h : Cu σ v R d) (hR : R.length ≤ 1000000) (h2 : SlP σ w L) (hL : L.length ≤ 1000) (hF : L.flatten.length ≤ 1000) : C cxH 18 [v, w] σ fun v σ' => v = coefV (flownL L) R d ∧ σ' = σ := by
  obtain ⟨s, b2, n2, c2, rfl⟩ := slP_agg h2
  obtain ⟨b, n, c, rfl, d0, rfl⟩ := h
  have e0 : Ext' σ.fresh ((σ.fresh.add (.row [.slice b R.length c, .int .i64 d] 50)).add (.row [.string s, .slice b2 n2 c2] 29)) := ((Ext'.refl _).add _).add _
  have d0' := (d0.ext (Ext'.to_fresh σ)).ext e0
  have h2' := slP_ext (slP_ext h2 (Ext'.to_fresh σ)) e0
  refine C_in (N := 33) (rs := [.tmp 4, .tmp 5]) fn_18 (by rfl) (by rfl) (by rfl) (by rfl) (by rfl) (by rfl) ?_
  unfold coefV
  by_cases hd : d < 2
  · have e : (d < 2) = True := eq_true hd
    rw [if_pos hd]
    simp (disch := first | exact sideD | fail) only [go_sem, e, fa_50_1, lo_3_1]
    exact ⟨trivial, back_plain e0 rfl⟩
  · have e : (d < 2) = False := eq_false hd
    have hd2 : 2 ≤ d := by omega
    rw [if_neg hd]
    simp (disch := first | exact sideD | fail) only [go_sem, e, fa_50_1, lo_3_1, lo_29]
    apply use
    case hl => exact sideX
    case h => exact rOperated_ok h2' hL hF
    rintro vo σ1 ho e1 l1
    have n_e1 := e1.next
    try simp only [add_next, set_next, fresh_next, low_next, lw_next] at n_e1
    have hc : Sym.look cxH σ1 σ.next = some (.row [.slice b R.length c, .int .i64 d] 50) := by simp (disch := first | exact sideD | fail) only [go_sem, e1.look]
    have d1 := d0'.ext e1
    have hl := flownL_le hF
    generalize flownL L = l at ho hl ⊢
    obtain ⟨bo, no, co, rfl, dl, rfl⟩ := ho
    have hLi : Li σ1 (.slice b R.length c) R := ⟨_, _, _, rfl, d1, rfl⟩
    simp (disch := first | exact sideD | fail) only [go_sem]
    refine Wloop_inv (fun m g σ' => ∃ (i : Nat), m = l.length - i ∧ i ≤ l.length ∧ g 7 = .slice bo l.length co ∧ g 2 = .pointer (some ⟨σ.next, 0, none⟩) ∧ g 6 = .int .i64 (hits R (l.take i) : Nat) ∧ g 8 = .int .i64 (i : Int) ∧ σ' = σ1) l.length (by rfl)
      ⟨0, rfl, Nat.zero_le _, by simp (disch := first | exact sideD | fail) only [go_sem], by simp (disch := first | exact sideD | fail) only [go_sem], by simp (disch := first | exact sideD | fail) only [go_sem]; rfl, by simp (disch := first | exact sideD | fail) only [go_sem]; rfl, rfl⟩ ?_
    rintro m g _ ⟨i, rfl, hi, g7, g2, g6, g8, rfl⟩
    by_cases hin : i = l.length
    · subst hin
      have e : ((l.length : Int) < (l.length : Int)) = False := eq_false (by omega)
      rw [List.take_of_length_le (Nat.le_refl _)] at g6
      have hh : hits R l ≤ 1000000 := Nat.le_trans hits_le hl
      simp (disch := first | exact sideD | fail) only [go_sem, g7, g2, g6, g8, e, hc, fa_50_1, lo_3_1, quo_cf]
      exact ⟨rfl, back_plain (e0.trans e1) rfl⟩
    · have e : ((i : Int) < (l.length : Int)) = True := eq_true (by omega)
      have hil : i < l.length := by omega
      obtain ⟨a, ha⟩ : ∃ a, l[i]? = some a := ⟨_, List.getElem?_eq_getElem hil⟩
      have hv := ints_get ha
      have hcl : hits R (l.take i) ≤ 1000000 := Nat.le_trans hits_le (by rw [List.length_take]; omega)
      simp (disch := first | exact sideD | fail) only [go_sem, g7, g2, g6, g8, e, hc, ia_42 dl hil, le_3 dl hv, fa_50_0, lo_42_0]
      apply usepD
      case hl => exact sideX
      case h => exact has_ok hLi hR
      rintro _ rfl
      by_cases hax : a ∈ R
      · have e1 : (a ∈ R) = True := eq_true hax
        simp (disch := first | exact sideD | fail) only [go_sem, g7, g2, g6, g8, e1, wi_succ]
        refine ⟨l.length - (i + 1), by omega, i + 1, rfl, by omega, trivial, trivial, ?_, rfl, trivial⟩
        rw [take_snoc ha, hits_snoc, if_pos hax]
      · have e1 : (a ∈ R) = False := eq_false hax
        simp (disch := first | exact sideD | fail) only [go_sem, g7, g2, g6, g8, e1, wi_succ]
        refine ⟨l.length - (i + 1), by omega, i + 1, rfl, by omega, trivial, trivial, ?_, rfl, trivial⟩
        rw [take_snoc ha, hits_snoc, if_neg hax]
        rfl
def bad (m x : Int) : Bool := decide (x < 0) || decide (m ≤ x)
theorem clo26_ok {σ : St} {p : Nat} {m x : Int} (hp : Sym.look cxH σ p = some (.row [.int .i64 m] 3)) : C cxH 26 [.int .i64 x, .pointer (some ⟨p, 0, none⟩)] σ fun v σ' => v = .bool (bad m x) ∧ σ' = σ := by
  have hp' : Sym.look cxH σ.fresh p = some (.row [.int .i64 m] 3) := hp
  refine C_in (N := 11) (rs := [.tmp 3]) fn_26 (by rfl) (by rfl) (by rfl) (by rfl) (by rfl) (by rfl) ?_
  unfold bad
  by_cases hx : x < 0
  · have e : (x < 0) = True := eq_true hx
    simp (disch := first | exact sideD | fail) only [go_sem, e]
    exact ⟨trivial, back_plain (Ext'.refl _) rfl⟩
  · have e : (x < 0) = False := eq_false hx
    simp (disch := first | exact sideD | fail) only [go_sem, e, hp', lo_3_0]
    exact ⟨trivial, back_plain (Ext'.refl _) rfl⟩
theorem call_26 {σ : St} {x y : Value} {K : Value → St → Prop} : Wfn cxH σ (.func (.func 26) #[] #[x]) [y] K = C cxH 26 [y, x] σ K := Wfn_fn (args := #[]) fn_26 rfl un_26
theorem indexI_ok {σ : St} {v : Value} {p : Nat} {m : Int} {l : List Int} (hp : Sym.look cxH σ p = some (.row [.int .i64 m] 3)) (h : Li σ v l) (hl : l.length ≤ 1000000) :
    C cxH 58 [v, .func (.func 26) #[] #[.pointer (some ⟨p, 0, none⟩)]] σ fun v σ' => (∃ a, v = .int .i64 a ∧ (0 ≤ a ↔ l.any (bad m) = true)) ∧ σ' = σ := by
  obtain ⟨b, n, c, rfl, h, rfl⟩ := h
  have d1 := h.ext (Ext'.to_fresh σ)
  have hp' : Sym.look cxH σ.fresh p = some (.row [.int .i64 m] 3) := hp
  refine C_in (N := 19) (rs := [.tmp 4]) fn_58 (by rfl) (by rfl) (by rfl) (by rfl) (by rfl) (by rfl) ?_
  simp (disch := first | exact sideD | fail) only [go_sem]
  refine Wloop_inv (fun j g σ' => ∃ (i : Nat), j = l.length - i ∧ i ≤ l.length ∧ g 0 = .slice b l.length c ∧ g 1 = .func (.func 26) #[] #[.pointer (some ⟨p, 0, none⟩)] ∧ g 7 = .int .i64 (l.length : Int) ∧ g 8 = .int .i64 (i : Int) ∧ σ' = σ.fresh ∧ (l.take i).any (bad m) = false) l.length (by rfl)
    ⟨0, rfl, Nat.zero_le _, by simp (disch := first | exact sideD | fail) only [go_sem], by simp (disch := first | exact sideD | fail) only [go_sem], by simp (disch := first | exact sideD | fail) only [go_sem], by simp (disch := first | exact sideD | fail) only [go_sem]; rfl, rfl, rfl⟩ ?_
  rintro j g _ ⟨i, rfl, hi, g0, g1, g7, g8, rfl, hno⟩
  by_cases hin : i = l.length
  · subst hin
    have e : ((l.length : Int) < (l.length : Int)) = False := eq_false (by omega)
    simp (disch := first | exact sideD | fail) only [go_sem, g0, g1, g7, g8, e]
    rw [List.take_of_length_le (Nat.le_refl _)] at hno
    refine ⟨⟨_, rfl, ?_⟩, back_plain (Ext'.refl _) rfl⟩
    rw [hno]
    simp
  · have e : ((i : Int) < (l.length : Int)) = True := eq_true (by omega)
    have hil : i < l.length := by omega
    obtain ⟨a, ha⟩ : ∃ a, l[i]? = some a := ⟨_, List.getElem?_eq_getElem hil⟩
    have hv := ints_get ha
    simp (disch := first | exact sideD | fail) only [go_sem, g0, g1, g7, g8, e, ia_42 d1 hil, le_3 d1 hv, call_26]
    apply usep
    case h => exact clo26_ok hp'
    rintro _ rfl
    cases hB : bad m a with
    | false =>
      simp (disch := first | exact sideD | fail) only [go_sem, g0, g1, g7, g8, hB, wi_succ]
      refine ⟨l.length - (i + 1), by omega, i + 1, rfl, by omega, trivial, trivial, trivial, rfl, trivial, ?_⟩
      rw [take_snoc ha, List.any_append, hno]
      simp [hB]
    | true =>
      simp (disch := first | exact sideD | fail) only [go_sem, g0, g1, g7, g8, hB]
      refine ⟨⟨_, rfl, ?_⟩, back_plain (Ext'.refl _) rfl⟩
      have : l.any (bad m) = true := List.any_eq_true.2 ⟨_, List.mem_of_getElem? ha, hB⟩
      rw [this]
      simp
theorem containsI_ok {σ : St} {v : Value} {p : Nat} {m : Int} {l : List Int} (hp : Sym.look cxH σ p = some (.row [.int .i64 m] 3)) (h : Li σ v l) (hl : l.length ≤ 1000000) :
    C cxH 25 [v, .func (.func 26) #[] #[.pointer (some ⟨p, 0, none⟩)]] σ fun v σ' => v = .bool (l.any (bad m)) ∧ σ' = σ := by
  have h' := li_ext h (Ext'.to_fresh σ)
  have hp' : Sym.look cxH σ.fresh p = some (.row [.int .i64 m] 3) := hp
  obtain ⟨b, n, c, rfl, -⟩ := h
  refine C_in (N := 9) (rs := [.tmp 4]) fn_25 (by rfl) (by rfl) (by rfl) (by rfl) (by rfl) (by rfl) ?_
  simp (disch := first | exact sideD | fail) only [go_sem]
  apply usep
  case h => exact indexI_ok hp' h' hl
  rintro _ ⟨a, rfl, ha⟩
  simp (disch := first | exact sideD | fail) only [go_sem]
  refine ⟨?_, back_plain (Ext'.refl _) rfl⟩
  cases hB : l.any (bad m) with
  | true => rw [decide_eq_true (ha.2 hB)]
  | false => rw [hB] at ha; rw [decide_eq_false (fun h => by cases ha.1 h)]
end
section
theorem sameInt_ok {σ : St} {v w : Value} {x : Int} (h : IsInt σ v x) (h2 : IsInt σ w x) (hs : Sz x 100000) : C cxH 36 [v, w] σ fun v σ' => v = .bool true ∧ σ' = σ := by
  have hsz : (digits x.natAbs).length ≤ 1000000 := by
    obtain ⟨_, _, _, _, _, e, hd, hn, _⟩ := isInt_g h hs
    obtain ⟨_, _, _, e', hd'⟩ := id h
    rw [e] at e'
    injection e' with e'
    injection e' with e'
    injection e' with _ e'
    injection e' with e' _
    injection e' with _ e1 e2
    subst e1
    rw [← hd'.len]
    omega
  obtain ⟨b, n, c, rfl, d0⟩ := h
  obtain ⟨b2, n2, c2, rfl, d2⟩ := h2
  have e0 : Ext' σ.fresh ((σ.fresh.add (.row [.bool (decide (x < 0)), .slice b n c] 35)).add (.row [.bool (decide (x < 0)), .slice b2 n2 c2] 35)) := ((Ext'.refl _).add _).add _
  have hn := d0.len
  have hn2 := d2.len
  generalize digits x.natAbs = l at d0 d2 hn hn2 hsz
  subst hn
  subst hn2
  have d1 := (d0.ext (Ext'.to_fresh σ)).ext e0
  have d2' := (d2.ext (Ext'.to_fresh σ)).ext e0
  have eb : (decide (x < 0) != decide (x < 0)) = false := by simp
  have el : ((l.length : Int) = (l.length : Int)) = True := eq_self _
  refine C_in (N := 38) (rs := [.tmp 4]) fn_36 (by rfl) (by rfl) (by rfl) (by rfl) (by rfl) (by rfl) ?_
  generalize decide (x < 0) = s at eb e0 d1 d2' ⊢
  simp (disch := first | exact sideD | fail) only [go_sem, fa_35_0, fa_35_1, lo_4_0, lo_33_1, wbin_neq_bool, eb, el]
  have k1 : Sym.look cxH ((σ.fresh.add (.row [.bool s, .slice b l.length c] 35)).add (.row [.bool s, .slice b2 l.length c2] 35)) σ.next = some (.row [.bool s, .slice b l.length c] 35) := by simp (disch := first | exact sideD | fail) only [go_sem]
  have k2 : Sym.look cxH ((σ.fresh.add (.row [.bool s, .slice b l.length c] 35)).add (.row [.bool s, .slice b2 l.length c2] 35)) (σ.next + 1) = some (.row [.bool s, .slice b2 l.length c2] 35) := by simp (disch := first | exact sideD | fail) only [go_sem]
  have l1 := e0.fresh_le
  generalize (σ.fresh.add (.row [.bool s, .slice b l.length c] 35)).add (.row [.bool s, .slice b2 l.length c2] 35) = τ at e0 d1 d2' k1 k2 l1 ⊢
  refine Wloop_inv (fun m g σ' => ∃ (i : Nat), m = l.length - i ∧ i ≤ l.length ∧ g 2 = .pointer (some ⟨σ.next, 0, none⟩) ∧ g 3 = .pointer (some ⟨σ.next + 1, 0, none⟩) ∧ g 5 = .int .i64 (i : Int) ∧ σ' = τ) l.length (by rfl)
    ⟨0, rfl, Nat.zero_le _, by simp (disch := first | exact sideD | fail) only [go_sem], by simp (disch := first | exact sideD | fail) only [go_sem], by simp (disch := first | exact sideD | fail) only [go_sem]; rfl, rfl⟩ ?_
  rintro m g _ ⟨i, rfl, hi, g2, g3, g5, rfl⟩
  by_cases hin : i = l.length
  · subst hin
    have e : ((l.length : Int) < (l.length : Int)) = False := eq_false (by omega)
    simp (disch := first | exact sideD | fail) only [go_sem, g2, g3, g5, e, k1, fa_35_1, lo_33_1]
    exact ⟨trivial, back_plain e0 rfl⟩
  · have e : ((i : Int) < (l.length : Int)) = True := eq_true (by omega)
    have hil : i < l.length := by omega
    have e1 : (((l.getD i 0 : Nat) : Int) = ((l.getD i 0 : Nat) : Int)) = True := eq_self _
    simp (disch := first | exact sideD | fail) only [go_sem, g2, g3, g5, e, e1, k1, k2, fa_35_1, lo_33_1, ia_33 d1 hil, ia_33 d2' hil, ld_136' d1 hil, ld_136' d2' hil, wi_succ]
    exact ⟨l.length - (i + 1), by omega, i + 1, rfl, by omega, trivial, trivial, rfl, trivial⟩
theorem sameFrac_ok {σ : St} {v w : Value} {q : Rat} (h : IsFrac σ v q) (h2 : IsFrac σ w q) (hs : RSz q 100000) : C cxH 16 [v, w] σ fun v σ' => v = .bool true ∧ σ' = σ := by
  obtain ⟨n1, b1, m1, c1, n2, b2, m2, c2, rfl, hx, hy⟩ := h
  obtain ⟨n3, b3, m3, c3, n4, b4, m4, c4, rfl, hz, hw⟩ := h2
  refine C_in (N := 17) (rs := [.tmp 4]) fn_16 (by rfl) (by rfl) (by rfl) (by rfl) (by rfl) (by rfl) ?_
  have e0 : Ext' σ.fresh ((σ.fresh.add (.row [.bool n1, .slice b1 m1 c1, .bool n2, .slice b2 m2 c2] 37)).add (.row [.bool n3, .slice b3 m3 c3, .bool n4, .slice b4 m4 c4] 37)) := ((Ext'.refl _).add _).add _
  have hx' := isInt_ext (isInt_ext hx (Ext'.to_fresh σ)) e0
  have hy' := isInt_ext (isInt_ext hy (Ext'.to_fresh σ)) e0
  have hz' := isInt_ext (isInt_ext hz (Ext'.to_fresh σ)) e0
  have hw' := isInt_ext (isInt_ext hw (Ext'.to_fresh σ)) e0
  simp (disch := first | exact sideD | fail) only [go_sem, fa_37_0, lo_35_a]
  apply usep
  case h => exact sameInt_ok hx' hz' hs.1
  rintro _ rfl
  simp (disch := first | exact sideD | fail) only [go_sem, fa_37_1, lo_35_b]
  apply usep
  case h => exact sameInt_ok hy' hw' hs.2
  rintro _ rfl
  simp (disch := first | exact sideD | fail) only [go_sem]
  exact ⟨trivial, back_plain e0 rfl⟩
end
end
end Go.Proofs.YtfdflggfffajaaaGreatDoor
