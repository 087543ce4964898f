/- Prices that are valid: both functions agree. -/
import Derived.Test.YtfdflggfffajaaaGreatDoorListC
set_option linter.unusedVariables false
set_option linter.unusedSimpArgs false
set_option linter.unusedSectionVars false
namespace Go.Proofs.YtfdflggfffajaaaGreatDoor
open Go Go.Num Go.Proofs
open Go.Sym hiding val
noncomputable section
attribute [local congr] blk_congr Wpick_congr Wgd_congr Wgd'_congr Wcond_congr Wbin_congr Wun_congr Wconv_congr Wext_congr Wfa_congr Wfd_congr Wia_congr Wld_congr Wlen_congr Wst_congr Wbox_congr WldO_congr WstO_congr Wmk_congr Wsl_congr Wap_congr Wbs_congr Wbd_congr Wfn_congr C_congr
set_option maxHeartbeats 2000000
section
def cutAt (n : Int) (p : Pr) (i : Nat) : Int := match p.C[i]?, p.U[i]? with
  | some x, some u => cutE n x u.q
  | _, _ => 0
def decE (n : Int) (t : Dx) : Int := if bad n t.1 = true ∨ bad n t.2.1 = true ∨ t.1 = t.2.1 then 5 else 0
def decAt (n : Int) (p : Pr) (i : Nat) : Int := match p.X[i]? with
  | some t => decE n t
  | none => 0
def cutsE (n : Int) (p : Pr) : Int := scan (cutAt n p) 0 p.C.length
def decsE (n : Int) (p : Pr) : Int := scan (decAt n p) 0 p.X.length
def valE (n : Int) (p : Pr) : Int :=
  if n < 0 ∨ ¬ (p.F.length : Int) = n ∨ ¬ (p.U.length : Int) = p.C.length then 12
  else if (32 : Int) < p.C.length ∨ (32 : Int) < p.X.length then 10
  else if cutsE n p ≠ 0 then cutsE n p else decsE n p
theorem valE_12 {n : Int} {p : Pr} (h : n < 0 ∨ ¬ (p.F.length : Int) = n ∨ ¬ (p.U.length : Int) = p.C.length) : valE n p = 12 := by unfold valE; rw [if_pos h]
theorem valE_10 {n : Int} {p : Pr} (h : ¬ (n < 0 ∨ ¬ (p.F.length : Int) = n ∨ ¬ (p.U.length : Int) = p.C.length)) (h2 : (32 : Int) < p.C.length ∨ (32 : Int) < p.X.length) : valE n p = 10 := by unfold valE; rw [if_neg h, if_pos h2]
theorem valE_c {n : Int} {p : Pr} (h : ¬ (n < 0 ∨ ¬ (p.F.length : Int) = n ∨ ¬ (p.U.length : Int) = p.C.length)) (h2 : ¬ ((32 : Int) < p.C.length ∨ (32 : Int) < p.X.length)) (h3 : cutsE n p ≠ 0) : valE n p = cutsE n p := by unfold valE; rw [if_neg h, if_neg h2, if_pos h3]
theorem valE_d {n : Int} {p : Pr} (h : ¬ (n < 0 ∨ ¬ (p.F.length : Int) = n ∨ ¬ (p.U.length : Int) = p.C.length)) (h2 : ¬ ((32 : Int) < p.C.length ∨ (32 : Int) < p.X.length)) (h3 : cutsE n p = 0) : valE n p = decsE n p := by unfold valE; rw [if_neg h, if_neg h2, if_neg (by simp [h3])]
theorem decE_hit {n : Int} {t : Dx} (h : bad n t.1 = true ∨ bad n t.2.1 = true ∨ t.1 = t.2.1) : decE n t = 5 := if_pos h
theorem decE_no {n : Int} {t : Dx} (h1 : bad n t.1 = false) (h2 : bad n t.2.1 = false) (h3 : ¬ t.1 = t.2.1) : decE n t = 0 := if_neg (by simp [h1, h2, h3])
theorem decAt_of {n : Int} {p : Pr} {i : Nat} {t : Dx} (h : p.X[i]? = some t) : decAt n p i = decE n t := by unfold decAt; rw [h]
theorem cutAt_of {n : Int} {p : Pr} {i : Nat} {x : Cv} {u : Fv} (h : p.C[i]? = some x) (h2 : p.U[i]? = some u) : cutAt n p i = cutE n x u.q := by unfold cutAt; rw [h, h2]
theorem al_50 {σ : St} {K : Value → St → Prop} : Wal cxH σ 50 K = K (.pointer (some ⟨σ.next, 0, none⟩)) (σ.add (.row [.slice none 0 0, .int .i64 0] 50)) := Wal_of ty_50 rfl
theorem st_50 {σ : St} {p : Nat} {e : TypeId} {K : Value → St → Prop} {x y : Value} {b : Option Addr} {n c : Nat} {d : Int} : WstO cxH σ 50 p 0 (some (.row [x, y] e)) (.agg #[.slice b n c, .int .i64 d]) K = K undef (σ.set p (.row [.slice b n c, .int .i64 d] e)) :=
  WstO_of (by unfold storeO; rw [ty_50]; rfl)
theorem cvOk_lw {σ : St} {x : Cv} {a : Nat} (h : CvOk σ x) : CvOk (σ.lw a) x := ⟨h.s, h.n, h.h, h.r⟩
theorem fvOk_lw {σ : St} {x : Fv} {a : Nat} (h : FvOk σ x) : FvOk (σ.lw a) x := ⟨h.d1, h.d2, h.h1, h.h2⟩
theorem validate_ok {σ : St} {v0 v1 v2 v3 : Value} {p : Pr} {n : Int} (h : PrOk σ v0 v1 v2 v3 p) (hlt : p.light) : C cxH 14 [.int .i64 n, .agg #[v0, v1, v2, v3, .bool p.r]] σ fun v σ' => v = .int .i64 (valE n p) ∧ σ' = σ := by
  have h0 := prOk_ext h (Ext'.to_fresh σ)
  obtain ⟨bF, nF, cF, rfl, -, rfl, -⟩ := id h.F
  obtain ⟨bC, nC, cC, rfl, -, rfl, -⟩ := id h.C
  obtain ⟨bU, nU, cU, rfl, -, rfl, -⟩ := id h.U
  obtain ⟨bX, nX, cX, rfl, -, rfl⟩ := id h.X
  obtain ⟨-, -, -, -, hF, hC, hU, hX⟩ := id h
  refine C_in (N := 95) (rs := [.tmp 4]) fn_14 (by rfl) (by rfl) (by rfl) (by rfl) (by rfl) (by rfl) ?_
  simp (disch := first | exact sideD | fail) only [go_sem]
  have e0 : Ext' σ.fresh (σ.fresh.add (.row [.slice bF p.F.length cF, .slice bC p.C.length cC, .slice bU p.U.length cU, .slice bX p.X.length cX, .bool p.r] 26)) := (Ext'.refl _).add _
  have k0 : Sym.look cxH (σ.fresh.add (.row [.slice bF p.F.length cF, .slice bC p.C.length cC, .slice bU p.U.length cU, .slice bX p.X.length cX, .bool p.r] 26)) σ.next = some (.row [.slice bF p.F.length cF, .slice bC p.C.length cC, .slice bU p.U.length cU, .slice bX p.X.length cX, .bool p.r] 26) := look_add rfl
  have n0 : σ.next < (σ.fresh.add (.row [.slice bF p.F.length cF, .slice bC p.C.length cC, .slice bU p.U.length cU, .slice bX p.X.length cX, .bool p.r] 26)).next := Nat.lt_succ_self _
  have l0 := e0.fresh_le
  generalize σ.fresh.add (.row [.slice bF p.F.length cF, .slice bC p.C.length cC, .slice bU p.U.length cU, .slice bX p.X.length cX, .bool p.r] 26) = τ at e0 k0 n0 l0 ⊢
  have h1 := prOk_ext h0 e0
  by_cases hn0 : n < 0
  · have e1 := eq_true hn0
    simp (disch := first | exact sideD | fail) only [go_sem, k0, e1]
    exact ⟨by rw [valE_12 (.inl hn0)], back_plain e0 rfl⟩
  have e1 := eq_false hn0
  by_cases hn1 : (p.F.length : Int) = n
  case neg =>
    have e2 := eq_false hn1
    simp (disch := first | exact sideD | fail) only [go_sem, k0, fa_26_0, lo_22_0, e1, e2]
    exact ⟨by rw [valE_12 (.inr (.inl hn1))], back_plain e0 rfl⟩
  have e2 := eq_true hn1
  by_cases hn2 : (p.U.length : Int) = p.C.length
  case neg =>
    have e3 := eq_false hn2
    simp (disch := first | exact sideD | fail) only [go_sem, k0, fa_26_0, fa_26_1, fa_26_2, lo_22_0, lo_22_2, lo_23_1, e1, e2, e3]
    exact ⟨by rw [valE_12 (.inr (.inr hn2))], back_plain e0 rfl⟩
  have e3 := eq_true hn2
  have c12 : ¬ (n < 0 ∨ ¬ (p.F.length : Int) = n ∨ ¬ (p.U.length : Int) = p.C.length) := by rintro (h | h | h) <;> contradiction
  by_cases hn3 : (32 : Int) < p.C.length
  · have e4 := eq_true hn3
    simp (disch := first | exact sideD | fail) only [go_sem, k0, fa_26_0, fa_26_1, fa_26_2, lo_22_0, lo_22_2, lo_23_1, e1, e2, e3, e4]
    exact ⟨by rw [valE_10 c12 (.inl hn3)], back_plain e0 rfl⟩
  have e4 := eq_false hn3
  by_cases hn4 : (32 : Int) < p.X.length
  · have e5 := eq_true hn4
    simp (disch := first | exact sideD | fail) only [go_sem, k0, fa_26_0, fa_26_1, fa_26_2, fa_26_3, lo_22_0, lo_22_2, lo_23_1, lo_24_3, e1, e2, e3, e4, e5]
    exact ⟨by rw [valE_10 c12 (.inr hn4)], back_plain e0 rfl⟩
  have e5 := eq_false hn4
  have c10 : ¬ ((32 : Int) < p.C.length ∨ (32 : Int) < p.X.length) := by rintro (h | h) <;> contradiction
  simp (disch := first | exact sideD | fail) only [go_sem, k0, fa_26_0, fa_26_1, fa_26_2, fa_26_3, lo_22_0, lo_22_2, lo_23_1, lo_24_3, e1, e2, e3, e4, e5]
  obtain ⟨r, hr⟩ : ∃ r, cutsE n p = r := ⟨_, rfl⟩
  refine Wloop_inv (fun m g σ' => ∃ (i : Nat), m = p.C.length - i ∧ i ≤ p.C.length ∧ g 0 = .int .i64 n ∧ g 3 = .pointer (some ⟨σ.next, 0, none⟩) ∧ g 41 = .slice bC p.C.length cC ∧ g 42 = .int .i64 (p.C.length : Int) ∧ g 43 = .int .i64 (i : Int) ∧ Ext' τ σ' ∧ scan (cutAt n p) i (p.C.length - i) = r) p.C.length (by rfl)
    ⟨0, rfl, Nat.zero_le _, by simp (disch := first | exact sideD | fail) only [go_sem], by simp (disch := first | exact sideD | fail) only [go_sem], by simp (disch := first | exact sideD | fail) only [go_sem], by simp (disch := first | exact sideD | fail) only [go_sem], by simp (disch := first | exact sideD | fail) only [go_sem]; rfl, Ext'.refl _, hr⟩ ?_
  rintro m g σ' ⟨i, rfl, hi, g0, g3, g41, g42, g43, E, hsc⟩
  have k1 := (E.look (cx := cxH) n0).trans k0
  have l1 := E.le l0
  have hp := prOk_ext h1 E
  by_cases hin : i = p.C.length
  · subst hin
    have e : ((p.C.length : Int) < (p.C.length : Int)) = False := eq_false (by omega)
    have hr1 := scan_end hsc
    subst hr1
    obtain ⟨r, hr2⟩ : ∃ r, decsE n p = r := ⟨_, rfl⟩
    rw [valE_d c12 c10 hr, hr2]
    simp (disch := first | exact sideD | fail) only [go_sem, g0, g3, g41, g42, g43, k1, e, fa_26_3, lo_24_3]
    refine Wloop_inv (fun m g σ' => ∃ (i : Nat), m = p.X.length - i ∧ i ≤ p.X.length ∧ g 0 = .int .i64 n ∧ g 61 = .slice bX p.X.length cX ∧ g 62 = .int .i64 (p.X.length : Int) ∧ g 63 = .int .i64 (i : Int) ∧ Ext' τ σ' ∧ scan (decAt n p) i (p.X.length - i) = r) p.X.length (by rfl)
      ⟨0, rfl, Nat.zero_le _, by simp (disch := first | exact sideD | fail) only [go_sem, g0], by simp (disch := first | exact sideD | fail) only [go_sem], by simp (disch := first | exact sideD | fail) only [go_sem], by simp (disch := first | exact sideD | fail) only [go_sem]; rfl, E, hr2⟩ ?_
    clear g0 g3 g41 g42 g43 E hsc hp k1 l1 e hi
    rintro m g σ' ⟨i, rfl, hi, g0, g61, g62, g63, E, hsc⟩
    have l1 := E.le l0
    obtain ⟨_, _, _, eq, dX, -⟩ := slX_ext h1.X E
    injection eq with q1 q2 q3
    subst q1
    subst q2
    subst q3
    by_cases hin : i = p.X.length
    · subst hin
      have e : ((p.X.length : Int) < (p.X.length : Int)) = False := eq_false (by omega)
      have hr1 := scan_end hsc
      simp (disch := first | exact sideD | fail) only [go_sem, g0, g61, g62, g63, e]
      exact ⟨by rw [hr1], back_plain (e0.trans E) rfl⟩
    · have e : ((i : Int) < (p.X.length : Int)) = True := eq_true (by omega)
      have hil : i < p.X.length := by omega
      obtain ⟨t, ht⟩ : ∃ t, p.X[i]? = some t := ⟨_, List.getElem?_eq_getElem hil⟩
      have t0 : (p.X.flatMap encX)[i * 3]? = some (.int .i64 t.1) := getElem?_flatMap encX_len p.X i 0 (by omega) t ht
      have t1 : (p.X.flatMap encX)[i * 3 + 1]? = some (.int .i64 t.2.1) := getElem?_flatMap encX_len p.X i 1 (by omega) t ht
      have t2 : (p.X.flatMap encX)[i * 3 + 2]? = some (.bool t.2.2) := getElem?_flatMap encX_len p.X i 2 (by omega) t ht
      obtain ⟨x, y, t⟩ := t
      have hat := decAt_of (n := n) ht
      have e3' : Ext' σ' ((σ'.add (.row [.int .i64 0, .int .i64 0, .bool false] 91)).set σ'.next (.row [.int .i64 x, .int .i64 y, .bool t] 91)) := ((Ext'.refl _).add _).set _ (Nat.le_refl _)
      have k3 : Sym.look cxH ((σ'.add (.row [.int .i64 0, .int .i64 0, .bool false] 91)).set σ'.next (.row [.int .i64 x, .int .i64 y, .bool t] 91)) σ'.next = some (.row [.int .i64 x, .int .i64 y, .bool t] 91) := look_set rfl
      have E3 := E.trans e3'
      have hit : (bad n x = true ∨ bad n y = true ∨ x = y) → r = 5 := fun hh => by
        rw [decE_hit (t := (x, y, t)) hh] at hat
        have := scan_hit hsc hil (by rw [hat]; decide)
        rw [hat] at this
        exact this.symm
      simp (disch := first | exact sideX | fail) only [go_sem, g0, g61, g62, g63, e, ia_24 dX hil, le_91 dX t0 t1 t2, al_91, st_91]
      generalize (σ'.add (.row [.int .i64 0, .int .i64 0, .bool false] 91)).set σ'.next (.row [.int .i64 x, .int .i64 y, .bool t] 91) = σ3 at e3' k3 E3 ⊢
      have done := back_plain (e0.trans E3) (v := .int .i64 5) rfl
      by_cases q1 : x < 0
      · have a1 := eq_true q1
        simp (disch := first | exact sideD | fail) only [go_sem, g0, k3, fa_91_0, fa_91_1, lo_3_0, lo_3_1, a1]
        exact ⟨by rw [hit (.inl (bad_l q1))], done⟩
      have a1 := eq_false q1
      by_cases q2 : n ≤ x
      · have a2 := eq_true q2
        simp (disch := first | exact sideD | fail) only [go_sem, g0, k3, fa_91_0, fa_91_1, lo_3_0, lo_3_1, a1, a2]
        exact ⟨by rw [hit (.inl (bad_r q2))], done⟩
      have a2 := eq_false q2
      by_cases q3 : y < 0
      · have a3 := eq_true q3
        simp (disch := first | exact sideD | fail) only [go_sem, g0, k3, fa_91_0, fa_91_1, lo_3_0, lo_3_1, a1, a2, a3]
        exact ⟨by rw [hit (.inr (.inl (bad_l q3)))], done⟩
      have a3 := eq_false q3
      by_cases q4 : n ≤ y
      · have a4 := eq_true q4
        simp (disch := first | exact sideD | fail) only [go_sem, g0, k3, fa_91_0, fa_91_1, lo_3_0, lo_3_1, a1, a2, a3, a4]
        exact ⟨by rw [hit (.inr (.inl (bad_r q4)))], done⟩
      have a4 := eq_false q4
      by_cases q5 : x = y
      · have a5 := eq_true q5
        simp (disch := first | exact sideD | fail) only [go_sem, g0, k3, fa_91_0, fa_91_1, lo_3_0, lo_3_1, a1, a2, a3, a4, a5]
        exact ⟨by rw [hit (.inr (.inr q5))], done⟩
      have a5 := eq_false q5
      rw [decE_no (t := (x, y, t)) (bad_n q1 q2) (bad_n q3 q4) q5] at hat
      have hs := scan_next hsc hil hat
      simp (disch := first | exact sideD | fail) only [go_sem, g0, g61, g62, g63, k3, fa_91_0, fa_91_1, lo_3_0, lo_3_1, a1, a2, a3, a4, a5, wi_succ]
      exact ⟨p.X.length - (i + 1), by omega, i + 1, rfl, by omega, trivial, trivial, trivial, rfl, E3, hs⟩
  · have e : ((i : Int) < (p.C.length : Int)) = True := eq_true (by omega)
    have hil : i < p.C.length := by omega
    have hil2 : i < p.U.length := by omega
    obtain ⟨x, hx⟩ : ∃ x, p.C[i]? = some x := ⟨_, List.getElem?_eq_getElem hil⟩
    obtain ⟨u, hu⟩ : ∃ x, p.U[i]? = some x := ⟨_, List.getElem?_eq_getElem hil2⟩
    have hat := cutAt_of (n := n) hx hu
    obtain ⟨_, _, _, eq, dC, -, okC⟩ := id hp.C
    injection eq with q1 q2 q3
    subst q1
    subst q2
    subst q3
    have s0 : (p.C.flatMap encC)[i * 2]? = some (.slice x.b x.n x.c) := getElem?_flatMap encC_len p.C i 0 (by omega) x hx
    have s1 : (p.C.flatMap encC)[i * 2 + 1]? = some (.int .i64 x.d) := getElem?_flatMap encC_len p.C i 1 (by omega) x hx
    have e3' : Ext' σ' ((σ'.add (.row [.slice none 0 0, .int .i64 0] 50)).set σ'.next (.row [.slice x.b x.n x.c, .int .i64 x.d] 50)) := ((Ext'.refl _).add _).set _ (Nat.le_refl _)
    have k3 : Sym.look cxH ((σ'.add (.row [.slice none 0 0, .int .i64 0] 50)).set σ'.next (.row [.slice x.b x.n x.c, .int .i64 x.d] 50)) σ'.next = some (.row [.slice x.b x.n x.c, .int .i64 x.d] 50) := look_set rfl
    have E3 := E.trans e3'
    have l3 := E3.le l0
    simp (disch := first | exact sideX | fail) only [go_sem, g0, g3, g41, g42, g43, e, ia_23 dC hil, le_50 dC s0 s1, al_50, st_50]
    generalize (σ'.add (.row [.slice none 0 0, .int .i64 0] 50)).set σ'.next (.row [.slice x.b x.n x.c, .int .i64 x.d] 50) = σ3 at e3' k3 E3 l3 ⊢
    have k4 := (E3.look (cx := cxH) n0).trans k0
    have hp3 := prOk_ext h1 E3
    obtain ⟨_, _, _, eq, dU, -, okU⟩ := id hp3.U
    injection eq with q1 q2 q3
    subst q1
    subst q2
    subst q3
    have t0 : (p.U.flatMap encF)[i * 4]? = some (.bool u.s1) := getElem?_flatMap encF_len p.U i 0 (by omega) u hu
    have t1 : (p.U.flatMap encF)[i * 4 + 1]? = some (.slice u.b1 u.n1 u.c1) := getElem?_flatMap encF_len p.U i 1 (by omega) u hu
    have t2 : (p.U.flatMap encF)[i * 4 + 2]? = some (.bool u.s2) := getElem?_flatMap encF_len p.U i 2 (by omega) u hu
    have t3 : (p.U.flatMap encF)[i * 4 + 3]? = some (.slice u.b2 u.n2 u.c2) := getElem?_flatMap encF_len p.U i 3 (by omega) u hu
    have okx := cvOk_ext (okC x (List.mem_of_getElem? hx)) e3'
    have oku := okU u (List.mem_of_getElem? hu)
    have hul := hlt.U.2 u (List.mem_of_getElem? hu)
    simp (disch := first | exact sideD | fail) only [go_sem, g0, g3, g41, g42, g43, k3, k4, lo_50, fa_26_2, lo_22_2, ia_22 dU hil2, le_37 dU t0 t1 t2 t3]
    apply usepD
    case hl => exact sideX
    case h => exact cutError_ok (cvOk_lw okx) (fvOk_lw oku) hul
    rintro _ rfl
    rw [← hat]
    by_cases hz : cutAt n p i = 0
    · have a1 := eq_true hz
      have hs := scan_next hsc hil hz
      simp (disch := first | exact sideD | fail) only [go_sem, g0, g3, g41, g42, g43, a1, wi_succ]
      exact ⟨p.C.length - (i + 1), by omega, i + 1, rfl, by omega, trivial, trivial, trivial, trivial, rfl, E3, hs⟩
    · have a1 := eq_false hz
      have hq := scan_hit hsc hil hz
      simp (disch := first | exact sideD | fail) only [go_sem, g0, g3, g41, g42, g43, a1]
      refine ⟨?_, back_plain (e0.trans E3) rfl⟩
      rw [valE_c c12 c10 (by rw [hr, ← hq]; exact hz), hr, ← hq]
end
section
theorem cutE_row {n : Int} {x : Cv} {u : Rat} (h : rowsE n x.R ≠ 0) : cutE n x u = rowsE n x.R := by unfold cutE; rw [if_pos h]
theorem cutE_hit {n : Int} {x : Cv} {u : Rat} (h : rowsE n x.R = 0) (h2 : x.d < 2 ∨ (x.n : Int) < x.d ∨ 0 < u.num.sign) : cutE n x u = 5 := by unfold cutE; rw [if_neg (by simp [h]), if_pos h2]
theorem cutE_no {n : Int} {x : Cv} {u : Rat} (h : rowsE n x.R = 0) (h2 : ¬ (x.d < 2 ∨ (x.n : Int) < x.d ∨ 0 < u.num.sign)) : cutE n x u = 0 := by unfold cutE; rw [if_neg (by simp [h]), if_neg h2]
theorem rvalidate_ok {σ : St} {v0 v1 v2 v3 : Value} {p : Pr} {n : Int} (h : PrOk σ v0 v1 v2 v3 p) (hlt : p.light) : C cxH 15 [.int .i64 n, .agg #[v0, v1, v2, v3, .bool p.r]] σ fun v σ' => v = .int .i64 (valE n p) ∧ σ' = σ := by
  have h0 := prOk_ext h (Ext'.to_fresh σ)
  obtain ⟨bF, nF, cF, rfl, -, rfl, -⟩ := id h.F
  obtain ⟨bC, nC, cC, rfl, -, rfl, -⟩ := id h.C
  obtain ⟨bU, nU, cU, rfl, -, rfl, -⟩ := id h.U
  obtain ⟨bX, nX, cX, rfl, -, rfl⟩ := id h.X
  obtain ⟨-, -, -, -, hF, hC, hU, hX⟩ := id h
  refine C_in (N := 150) (rs := [.tmp 4]) fn_15 (by rfl) (by rfl) (by rfl) (by rfl) (by rfl) (by rfl) ?_
  simp (disch := first | exact sideD | fail) only [go_sem]
  have e0 : Ext' σ.fresh (σ.fresh.add (.row [.slice bF p.F.length cF, .slice bC p.C.length cC, .slice bU p.U.length cU, .slice bX p.X.length cX, .bool p.r] 26)) := (Ext'.refl _).add _
  have k0 : Sym.look cxH (σ.fresh.add (.row [.slice bF p.F.length cF, .slice bC p.C.length cC, .slice bU p.U.length cU, .slice bX p.X.length cX, .bool p.r] 26)) σ.next = some (.row [.slice bF p.F.length cF, .slice bC p.C.length cC, .slice bU p.U.length cU, .slice bX p.X.length cX, .bool p.r] 26) := look_add rfl
  have n0 : σ.next < (σ.fresh.add (.row [.slice bF p.F.length cF, .slice bC p.C.length cC, .slice bU p.U.length cU, .slice bX p.X.length cX, .bool p.r] 26)).next := Nat.lt_succ_self _
  have l0 := e0.fresh_le
  generalize σ.fresh.add (.row [.slice bF p.F.length cF, .slice bC p.C.length cC, .slice bU p.U.length cU, .slice bX p.X.length cX, .bool p.r] 26) = τ at e0 k0 n0 l0 ⊢
  have h1 := prOk_ext h0 e0
  by_cases hn0 : n < 0
  · have e1 := eq_true hn0
    simp (disch := first | exact sideD | fail) only [go_sem, k0, e1]
    exact ⟨by rw [valE_12 (.inl hn0)], back_plain e0 rfl⟩
  have e1 := eq_false hn0
  by_cases hn1 : (p.F.length : Int) = n
  case neg =>
    have e2 := eq_false hn1
    simp (disch := first | exact sideD | fail) only [go_sem, k0, fa_26_0, lo_22_0, e1, e2]
    exact ⟨by rw [valE_12 (.inr (.inl hn1))], back_plain e0 rfl⟩
  have e2 := eq_true hn1
  by_cases hn2 : (p.U.length : Int) = p.C.length
  case neg =>
    have e3 := eq_false hn2
    simp (disch := first | exact sideD | fail) only [go_sem, k0, fa_26_0, fa_26_1, fa_26_2, lo_22_0, lo_22_2, lo_23_1, e1, e2, e3]
    exact ⟨by rw [valE_12 (.inr (.inr hn2))], back_plain e0 rfl⟩
  have e3 := eq_true hn2
  have c12 : ¬ (n < 0 ∨ ¬ (p.F.length : Int) = n ∨ ¬ (p.U.length : Int) = p.C.length) := by rintro (h | h | h) <;> contradiction
  by_cases hn3 : (32 : Int) < p.C.length
  · have e4 := eq_true hn3
    simp (disch := first | exact sideD | fail) only [go_sem, k0, fa_26_0, fa_26_1, fa_26_2, lo_22_0, lo_22_2, lo_23_1, e1, e2, e3, e4]
    exact ⟨by rw [valE_10 c12 (.inl hn3)], back_plain e0 rfl⟩
  have e4 := eq_false hn3
  by_cases hn4 : (32 : Int) < p.X.length
  · have e5 := eq_true hn4
    simp (disch := first | exact sideD | fail) only [go_sem, k0, fa_26_0, fa_26_1, fa_26_2, fa_26_3, lo_22_0, lo_22_2, lo_23_1, lo_24_3, e1, e2, e3, e4, e5]
    exact ⟨by rw [valE_10 c12 (.inr hn4)], back_plain e0 rfl⟩
  have e5 := eq_false hn4
  have c10 : ¬ ((32 : Int) < p.C.length ∨ (32 : Int) < p.X.length) := by rintro (h | h) <;> contradiction
  simp (disch := first | exact sideD | fail) only [go_sem, k0, fa_26_0, fa_26_1, fa_26_2, fa_26_3, lo_22_0, lo_22_2, lo_23_1, lo_24_3, e1, e2, e3, e4, e5]
  obtain ⟨r, hr⟩ : ∃ r, cutsE n p = r := ⟨_, rfl⟩
  refine Wloop_inv (fun m g σ' => ∃ (i : Nat), m = p.C.length - i ∧ i ≤ p.C.length ∧ g 0 = .int .i64 n ∧ g 3 = .pointer (some ⟨σ.next, 0, none⟩) ∧ g 5 = .int .i64 (i : Int) ∧ τ = σ' ∧ scan (cutAt n p) i (p.C.length - i) = r) p.C.length (by rfl)
    ⟨0, rfl, Nat.zero_le _, by simp (disch := first | exact sideD | fail) only [go_sem], by simp (disch := first | exact sideD | fail) only [go_sem], by simp (disch := first | exact sideD | fail) only [go_sem]; rfl, rfl, hr⟩ ?_
  rintro m g _ ⟨i, rfl, hi, g0, g3, g5, rfl, hsc⟩
  obtain ⟨_, _, _, eq, dC, -, okC⟩ := id h1.C
  injection eq with q1 q2 q3
  subst q1
  subst q2
  subst q3
  by_cases hin : i = p.C.length
  · subst hin
    have e : ((p.C.length : Int) < (p.C.length : Int)) = False := eq_false (by omega)
    have hr1 := scan_end hsc
    subst hr1
    obtain ⟨r, hr2⟩ : ∃ r, decsE n p = r := ⟨_, rfl⟩
    rw [valE_d c12 c10 hr, hr2]
    simp (disch := first | exact sideD | fail) only [go_sem, g0, g3, g5, k0, e, fa_26_1, lo_23_1]
    refine Wloop_inv (fun m g σ' => ∃ (i : Nat), m = p.X.length - i ∧ i ≤ p.X.length ∧ g 0 = .int .i64 n ∧ g 3 = .pointer (some ⟨σ.next, 0, none⟩) ∧ g 8 = .int .i64 (i : Int) ∧ Ext' τ σ' ∧ scan (decAt n p) i (p.X.length - i) = r) p.X.length (by rfl)
      ⟨0, rfl, Nat.zero_le _, by simp (disch := first | exact sideD | fail) only [go_sem, g0], by simp (disch := first | exact sideD | fail) only [go_sem, g3], by simp (disch := first | exact sideD | fail) only [go_sem]; rfl, Ext'.refl _, hr2⟩ ?_
    clear g0 g3 g5 hsc e hi
    rintro m g σ' ⟨i, rfl, hi, g0, g3, g8, E, hsc⟩
    have k1 := (E.look (cx := cxH) n0).trans k0
    have l1 := E.le l0
    obtain ⟨_, _, _, eq, dX, -⟩ := slX_ext h1.X E
    injection eq with q1 q2 q3
    subst q1
    subst q2
    subst q3
    by_cases hin : i = p.X.length
    · subst hin
      have e : ((p.X.length : Int) < (p.X.length : Int)) = False := eq_false (by omega)
      have hr1 := scan_end hsc
      simp (disch := first | exact sideD | fail) only [go_sem, g0, g3, g8, k1, fa_26_3, lo_24_3, e]
      exact ⟨by rw [hr1], back_plain (e0.trans E) rfl⟩
    · have e : ((i : Int) < (p.X.length : Int)) = True := eq_true (by omega)
      have hil : i < p.X.length := by omega
      obtain ⟨t, ht⟩ : ∃ t, p.X[i]? = some t := ⟨_, List.getElem?_eq_getElem hil⟩
      have t0 : (p.X.flatMap encX)[i * 3]? = some (.int .i64 t.1) := getElem?_flatMap encX_len p.X i 0 (by omega) t ht
      have t1 : (p.X.flatMap encX)[i * 3 + 1]? = some (.int .i64 t.2.1) := getElem?_flatMap encX_len p.X i 1 (by omega) t ht
      have t2 : (p.X.flatMap encX)[i * 3 + 2]? = some (.bool t.2.2) := getElem?_flatMap encX_len p.X i 2 (by omega) t ht
      obtain ⟨x, y, t⟩ := t
      have hat := decAt_of (n := n) ht
      have e3' : Ext' σ' ((σ'.add (.row [.int .i64 0, .int .i64 0, .bool false] 91)).set σ'.next (.row [.int .i64 x, .int .i64 y, .bool t] 91)) := ((Ext'.refl _).add _).set _ (Nat.le_refl _)
      have k3 : Sym.look cxH ((σ'.add (.row [.int .i64 0, .int .i64 0, .bool false] 91)).set σ'.next (.row [.int .i64 x, .int .i64 y, .bool t] 91)) σ'.next = some (.row [.int .i64 x, .int .i64 y, .bool t] 91) := look_set rfl
      have E3 := E.trans e3'
      have hit : (bad n x = true ∨ bad n y = true ∨ x = y) → r = 5 := fun hh => by
        rw [decE_hit (t := (x, y, t)) hh] at hat
        have := scan_hit hsc hil (by rw [hat]; decide)
        rw [hat] at this
        exact this.symm
      simp (disch := first | exact sideX | fail) only [go_sem, g0, g3, g8, k1, fa_26_3, lo_24_3, e, ia_24 dX hil, le_91 dX t0 t1 t2, al_91, st_91]
      generalize (σ'.add (.row [.int .i64 0, .int .i64 0, .bool false] 91)).set σ'.next (.row [.int .i64 x, .int .i64 y, .bool t] 91) = σ3 at e3' k3 E3 ⊢
      have done := back_plain (e0.trans E3) (v := .int .i64 5) rfl
      by_cases q1 : x < 0
      · have a1 := eq_true q1
        simp (disch := first | exact sideD | fail) only [go_sem, g0, k3, fa_91_0, fa_91_1, lo_3_0, lo_3_1, a1]
        exact ⟨by rw [hit (.inl (bad_l q1))], done⟩
      have a1 := eq_false q1
      by_cases q2 : n ≤ x
      · have a2 := eq_true q2
        simp (disch := first | exact sideD | fail) only [go_sem, g0, k3, fa_91_0, fa_91_1, lo_3_0, lo_3_1, a1, a2]
        exact ⟨by rw [hit (.inl (bad_r q2))], done⟩
      have a2 := eq_false q2
      by_cases q3 : y < 0
      · have a3 := eq_true q3
        simp (disch := first | exact sideD | fail) only [go_sem, g0, k3, fa_91_0, fa_91_1, lo_3_0, lo_3_1, a1, a2, a3]
        exact ⟨by rw [hit (.inr (.inl (bad_l q3)))], done⟩
      have a3 := eq_false q3
      by_cases q4 : n ≤ y
      · have a4 := eq_true q4
        simp (disch := first | exact sideD | fail) only [go_sem, g0, k3, fa_91_0, fa_91_1, lo_3_0, lo_3_1, a1, a2, a3, a4]
        exact ⟨by rw [hit (.inr (.inl (bad_r q4)))], done⟩
      have a4 := eq_false q4
      by_cases q5 : x = y
      · have a5 := eq_true q5
        simp (disch := first | exact sideD | fail) only [go_sem, g0, k3, fa_91_0, fa_91_1, lo_3_0, lo_3_1, a1, a2, a3, a4, a5]
        exact ⟨by rw [hit (.inr (.inr q5))], done⟩
      have a5 := eq_false q5
      rw [decE_no (t := (x, y, t)) (bad_n q1 q2) (bad_n q3 q4) q5] at hat
      have hs := scan_next hsc hil hat
      simp (disch := first | exact sideD | fail) only [go_sem, g0, g3, g8, k3, fa_91_0, fa_91_1, lo_3_0, lo_3_1, a1, a2, a3, a4, a5, wi_succ]
      exact ⟨p.X.length - (i + 1), by omega, i + 1, rfl, by omega, trivial, trivial, rfl, E3, hs⟩
  · have e : ((i : Int) < (p.C.length : Int)) = True := eq_true (by omega)
    have hil : i < p.C.length := by omega
    have hil2 : i < p.U.length := by omega
    obtain ⟨x, hx⟩ : ∃ x, p.C[i]? = some x := ⟨_, List.getElem?_eq_getElem hil⟩
    obtain ⟨u, hu⟩ : ∃ x, p.U[i]? = some x := ⟨_, List.getElem?_eq_getElem hil2⟩
    have hat := cutAt_of (n := n) hx hu
    have s0 : (p.C.flatMap encC)[i * 2]? = some (.slice x.b x.n x.c) := getElem?_flatMap encC_len p.C i 0 (by omega) x hx
    have s1 : (p.C.flatMap encC)[i * 2 + 1]? = some (.int .i64 x.d) := getElem?_flatMap encC_len p.C i 1 (by omega) x hx
    obtain ⟨_, _, _, eq, dU, -, okU⟩ := id h1.U
    injection eq with q1 q2 q3
    subst q1
    subst q2
    subst q3
    have t0 : (p.U.flatMap encF)[i * 4]? = some (.bool u.s1) := getElem?_flatMap encF_len p.U i 0 (by omega) u hu
    have t1 : (p.U.flatMap encF)[i * 4 + 1]? = some (.slice u.b1 u.n1 u.c1) := getElem?_flatMap encF_len p.U i 1 (by omega) u hu
    have t2 : (p.U.flatMap encF)[i * 4 + 2]? = some (.bool u.s2) := getElem?_flatMap encF_len p.U i 2 (by omega) u hu
    have t3 : (p.U.flatMap encF)[i * 4 + 3]? = some (.slice u.b2 u.n2 u.c2) := getElem?_flatMap encF_len p.U i 3 (by omega) u hu
    have okx := okC x (List.mem_of_getElem? hx)
    have oku := okU u (List.mem_of_getElem? hu)
    have hul := hlt.U.2 u (List.mem_of_getElem? hu)
    have d1 := okx.s
    have hn := okx.n
    have hh := okx.h
    have done5 : ∀ c : Int, Sym.back σ (.int .i64 c) τ = σ := fun c => back_plain e0 rfl
    have hitC : ∀ c, cutE n x u.q = c → c ≠ 0 → valE n p = c := fun c hc hz => by
      rw [hc] at hat
      have hq := scan_hit hsc hil (by rw [hat]; exact hz)
      rw [valE_c c12 c10 (by rw [hr, ← hq, hat]; exact hz), hr, ← hq, hat]
    obtain ⟨rr, hrr⟩ : ∃ r, rowsE n x.R = r := ⟨_, rfl⟩
    have hr0 : scan (rowAt n x.R) 0 (x.n - 0) = rr := by rw [hn, Nat.sub_zero]; exact hrr
    simp (disch := first | exact sideD | fail) only [go_sem, g0, g3, g5, k0, fa_26_1, lo_23_1, e, ia_23 dC hil, fe_50_0, le_42 dC s0]
    refine Wloop_inv (fun m g σ' => ∃ (j : Nat), m = x.n - j ∧ j ≤ x.n ∧ g 0 = .int .i64 n ∧ g 3 = .pointer (some ⟨σ.next, 0, none⟩) ∧ g 5 = .int .i64 (i : Int) ∧ g 6 = .slice x.b x.n x.c ∧ g 7 = .int .i64 (j : Int) ∧ τ = σ' ∧ scan (rowAt n x.R) j (x.n - j) = rr) x.n (by rfl)
      ⟨0, rfl, Nat.zero_le _, by simp (disch := first | exact sideD | fail) only [go_sem, g0], by simp (disch := first | exact sideD | fail) only [go_sem, g3], by simp (disch := first | exact sideD | fail) only [go_sem, g5], by simp (disch := first | exact sideD | fail) only [go_sem], by simp (disch := first | exact sideD | fail) only [go_sem]; rfl, rfl, hr0⟩ ?_
    clear g0 g3 g5 e
    rintro m g _ ⟨j, rfl, hj, g0, g3, g5, g6, g7, rfl, hsj⟩
    by_cases hjn : j = x.n
    · subst hjn
      have e : ((x.n : Int) < (x.n : Int)) = False := eq_false (by omega)
      have hr1 := scan_end hsj
      subst hr1
      by_cases h2 : x.d < 2
      · have b1 := eq_true h2
        simp (disch := first | exact sideD | fail) only [go_sem, g0, g3, g5, g6, g7, e, b1, k0, fa_26_1, lo_23_1, ia_23 dC hil, fe_50_1, le_3 dC s1]
        exact ⟨by rw [hitC 5 (cutE_hit hrr (.inl h2)) (by decide)], done5 _⟩
      have b1 := eq_false h2
      by_cases h3 : (x.n : Int) < x.d
      · have b2 := eq_true h3
        simp (disch := first | exact sideD | fail) only [go_sem, g0, g3, g5, g6, g7, e, b1, b2, k0, fa_26_1, lo_23_1, ia_23 dC hil, fe_50_1, le_3 dC s1]
        exact ⟨by rw [hitC 5 (cutE_hit hrr (.inr (.inl h3))) (by decide)], done5 _⟩
      have b2 := eq_false h3
      simp (disch := first | exact sideD | fail) only [go_sem, g0, g3, g5, g6, g7, e, b1, b2, k0, fa_26_1, fa_26_2, lo_22_2, lo_23_1, ia_23 dC hil, fe_50_1, le_3 dC s1, ia_22 dU hil2, le_37 dU t0 t1 t2 t3]
      apply usep
      case h => exact rfsign_ok (fv_g oku hul) (by decide) (by decide)
      rintro _ rfl
      by_cases h4 : 0 < u.q.num.sign
      · have b3 := eq_true h4
        simp (disch := first | exact sideD | fail) only [go_sem, b3]
        exact ⟨by rw [hitC 5 (cutE_hit hrr (.inr (.inr h4))) (by decide)], done5 _⟩
      · have b3 := eq_false h4
        rw [cutE_no hrr (by rintro (h | h | h) <;> contradiction)] at hat
        have hs := scan_next hsc hil hat
        simp (disch := first | exact sideD | fail) only [go_sem, g0, g3, g5, b3, wi_succ]
        exact ⟨p.C.length - (i + 1), by omega, i + 1, rfl, by omega, trivial, trivial, rfl, trivial, hs⟩
    · have e : ((j : Int) < (x.n : Int)) = True := eq_true (by omega)
      have hjl : j < x.n := by omega
      obtain ⟨a, ha⟩ : ∃ a, x.R[j]? = some a := ⟨_, List.getElem?_eq_getElem (by omega)⟩
      have hv := ints_get ha
      have hitR : ∀ c, rowAt n x.R j = c → c ≠ 0 → valE n p = c := fun c hc hz => by
        have hq := scan_hit hsj hjl (by rw [hc]; exact hz)
        rw [hc] at hq
        exact hitC c (by rw [cutE_row (by rw [hrr, ← hq]; exact hz), hrr, hq]) hz
      by_cases q1 : a < 0
      · have a1 := eq_true q1
        simp (disch := first | exact sideD | fail) only [go_sem, g0, g3, g5, g6, g7, e, a1, ia_42 d1 hjl, le_3 d1 hv]
        exact ⟨by rw [hitR 5 (rowAt_bad ha (bad_l q1)) (by decide)], done5 _⟩
      have a1 := eq_false q1
      by_cases q2 : n ≤ a
      · have a2 := eq_true q2
        simp (disch := first | exact sideD | fail) only [go_sem, g0, g3, g5, g6, g7, e, a1, a2, ia_42 d1 hjl, le_3 d1 hv]
        exact ⟨by rw [hitR 5 (rowAt_bad ha (bad_r q2)) (by decide)], done5 _⟩
      have a2 := eq_false q2
      have hb := bad_n q1 q2
      cases j with
      | zero =>
        have hs := scan_next hsj hjl (rowAt_zero ha hb)
        have a3 : (0 < ((0 : Nat) : Int)) = False := eq_false (by omega)
        simp (disch := first | exact sideD | fail) only [go_sem, g0, g3, g5, g6, g7, e, a1, a2, a3, ia_42 d1 hjl, le_3 d1 hv, wi_succ]
        exact ⟨x.n - 1, by omega, 1, rfl, by omega, trivial, trivial, trivial, trivial, rfl, trivial, hs⟩
      | succ j =>
        have hjl0 : j < x.n := by omega
        obtain ⟨c2, hc2⟩ : ∃ a, x.R[j]? = some a := ⟨_, List.getElem?_eq_getElem (by omega)⟩
        have hv2 := ints_get hc2
        have a3 : (0 < ((j + 1 : Nat) : Int)) = True := eq_true (by omega)
        have w1 : IntKind.i64.wrap (((j + 1 : Nat) : Int) - 1) = (j : Int) := wr64n (by omega) (by omega)
        by_cases q3 : a ≤ c2
        · have a4 := eq_true q3
          simp (disch := first | exact sideD | fail) only [go_sem, g0, g3, g5, g6, g7, e, a1, a2, a3, a4, w1, ia_42 d1 hjl, ia_42 d1 hjl0, le_3 d1 hv, le_3 d1 hv2]
          exact ⟨by rw [hitR 8 (rowAt_le ha hc2 hb q3) (by decide)], done5 _⟩
        · have a4 := eq_false q3
          have hs := scan_next hsj hjl (rowAt_ok ha hc2 hb q3)
          simp (disch := first | exact sideD | fail) only [go_sem, g0, g3, g5, g6, g7, e, a1, a2, a3, a4, w1, ia_42 d1 hjl, ia_42 d1 hjl0, le_3 d1 hv, le_3 d1 hv2, wi_succ]
          exact ⟨x.n - (j + 1 + 1), by omega, j + 1 + 1, rfl, by omega, trivial, trivial, trivial, trivial, rfl, trivial, hs⟩
end
end
end Go.Proofs.YtfdflggfffajaaaGreatDoor
