/- The reduced cost of the reference; ReducedCost of both. -/
import Derived.Test.YtfdflggfffajaaaGreatDoorListE
set_option linter.unusedVariables false
set_option linter.unusedSimpArgs false
set_option linter.unusedSectionVars false
namespace Go.Proofs.YtfdflggfffajaaaGreatDoor
open Go Go.Num Go.Proofs
open Go.Sym hiding val
noncomputable section
attribute [local congr] blk_congr Wpick_congr Wgd_congr Wgd'_congr Wcond_congr Wbin_congr Wun_congr Wconv_congr Wext_congr Wfa_congr Wfd_congr Wia_congr Wld_congr Wlen_congr Wst_congr Wbox_congr WldO_congr WstO_congr Wmk_congr Wsl_congr Wap_congr Wbs_congr Wbd_congr Wfn_congr C_congr
set_option maxHeartbeats 2000000
section
theorem rreduced_cost_ok {σ : St} {v0 v1 v2 v3 w : Value} {p : Pr} {L : List (List Tk)} {a : Int} (h : PrOk σ v0 v1 v2 v3 p) (hw : SlP σ w L) (hL : L.length ≤ 1000) (hF : L.flatten.length ≤ 1000) (hr : RedOk p (flownL L)) (ha : inI a) : C cxH 28 [.agg #[v0, v1, v2, v3, .bool p.r], w, .int .i64 a] σ fun v σ' => IsFrac σ' v (redQ p (flownL L) a) ∧ Ext' σ σ' := by
  have h0 := prOk_ext h (Ext'.to_fresh σ)
  have hw0 := slP_ext hw (Ext'.to_fresh σ)
  obtain ⟨bF, nF, cF, rfl, -, rfl, -⟩ := id h.F
  obtain ⟨bC, nC, cC, rfl, -, rfl, -⟩ := id h.C
  obtain ⟨bU, nU, cU, rfl, -, rfl, -⟩ := id h.U
  obtain ⟨bX, nX, cX, rfl, -, rfl⟩ := id h.X
  obtain ⟨sw, bw, nw, cw, rfl⟩ := slP_agg hw
  refine C_in (N := 63) (rs := [.cell 6 37]) fn_28 (by rfl) (by rfl) (by rfl) (by rfl) (by rfl) (by rfl) ?_
  simp (disch := first | exact sideX | fail) only [go_sem, al_37]
  have e0 : Ext' σ.fresh (((σ.fresh.add (.row [.slice bF p.F.length cF, .slice bC p.C.length cC, .slice bU p.U.length cU, .slice bX p.X.length cX, .bool p.r] 26)).add (.row [.string sw, .slice bw nw cw] 29)).add (.row [.bool false, .slice none 0 0, .bool false, .slice none 0 0] 37)) := (((Ext'.refl _).add _).add _).add _
  have k0 : Sym.look cxH (((σ.fresh.add (.row [.slice bF p.F.length cF, .slice bC p.C.length cC, .slice bU p.U.length cU, .slice bX p.X.length cX, .bool p.r] 26)).add (.row [.string sw, .slice bw nw cw] 29)).add (.row [.bool false, .slice none 0 0, .bool false, .slice none 0 0] 37)) σ.next = some (.row [.slice bF p.F.length cF, .slice bC p.C.length cC, .slice bU p.U.length cU, .slice bX p.X.length cX, .bool p.r] 26) := by simp (disch := first | exact sideD | fail) only [go_sem]
  have kr : Sym.look cxH (((σ.fresh.add (.row [.slice bF p.F.length cF, .slice bC p.C.length cC, .slice bU p.U.length cU, .slice bX p.X.length cX, .bool p.r] 26)).add (.row [.string sw, .slice bw nw cw] 29)).add (.row [.bool false, .slice none 0 0, .bool false, .slice none 0 0] 37)) (σ.next + 1 + 1) = some (.row [.bool false, .slice none 0 0, .bool false, .slice none 0 0] 37) := by simp (disch := first | exact sideD | fail) only [go_sem]
  have kp : Sym.look cxH (((σ.fresh.add (.row [.slice bF p.F.length cF, .slice bC p.C.length cC, .slice bU p.U.length cU, .slice bX p.X.length cX, .bool p.r] 26)).add (.row [.string sw, .slice bw nw cw] 29)).add (.row [.bool false, .slice none 0 0, .bool false, .slice none 0 0] 37)) (σ.next + 1) = some (.row [.string sw, .slice bw nw cw] 29) := by simp (disch := first | exact sideD | fail) only [go_sem]
  have n0 : σ.next + 1 + 1 < (((σ.fresh.add (.row [.slice bF p.F.length cF, .slice bC p.C.length cC, .slice bU p.U.length cU, .slice bX p.X.length cX, .bool p.r] 26)).add (.row [.string sw, .slice bw nw cw] 29)).add (.row [.bool false, .slice none 0 0, .bool false, .slice none 0 0] 37)).next := Nat.lt_succ_self _
  have l0 := e0.fresh_le
  generalize ((σ.fresh.add (.row [.slice bF p.F.length cF, .slice bC p.C.length cC, .slice bU p.U.length cU, .slice bX p.X.length cX, .bool p.r] 26)).add (.row [.string sw, .slice bw nw cw] 29)).add (.row [.bool false, .slice none 0 0, .bool false, .slice none 0 0] 37) = τ at e0 k0 kp kr n0 l0 ⊢
  have h1 := prOk_ext h0 e0
  have hw1 := slP_ext hw0 e0
  simp (disch := first | exact sideX | fail) only [go_sem, k0, fa_26_4, lo_4_4]
  generalize hQ : seqQ cxH 63 _ _ = Q
  have rest : ∀ (g : Fm) (z0 : Int), inI z0 → redQ p (flownL L) a = redB p (flownL L) (redA p (z0 : Rat) (flownL L)) p.C.length → g 2 = .int .i64 z0 → g 3 = .pointer (some ⟨σ.next, 0, none⟩) → g 4 = .pointer (some ⟨σ.next + 1, 0, none⟩) → g 6 = .pointer (some ⟨σ.next + 1 + 1, 0, none⟩) → Q .normal g τ := by
    subst hQ
    intro g z0 hz0 hred g2 g3 g4 g6
    rw [hred]
    simp (disch := first | exact sideD | fail) only [go_sem, g2, g3, g4, g6]
    apply use
    case hl => exact sideX
    case h => exact rwhole_ok hz0.1 hz0.2
    rintro vz σ1 hz e1 l1
    have n_e1 := e1.next
    try simp only [add_next, set_next, fresh_next, low_next, lw_next] at n_e1
    obtain ⟨s1, b1, m1, c1, s2, b2, m2, c2, rfl, -⟩ := id hz
    have e2 : Ext' σ1 ((σ1.add (.row [.bool false, .slice none 0 0, .bool false, .slice none 0 0] 37)).set σ1.next (.row [.bool s1, .slice b1 m1 c1, .bool s2, .slice b2 m2 c2] 37)) := ((Ext'.refl _).add _).set _ (Nat.le_refl _)
    have k2 : Sym.look cxH ((σ1.add (.row [.bool false, .slice none 0 0, .bool false, .slice none 0 0] 37)).set σ1.next (.row [.bool s1, .slice b1 m1 c1, .bool s2, .slice b2 m2 c2] 37)) σ1.next = some (.row [.bool s1, .slice b1 m1 c1, .bool s2, .slice b2 m2 c2] 37) := look_set rfl
    have n2 : σ1.next < ((σ1.add (.row [.bool false, .slice none 0 0, .bool false, .slice none 0 0] 37)).set σ1.next (.row [.bool s1, .slice b1 m1 c1, .bool s2, .slice b2 m2 c2] 37)).next := Nat.lt_succ_self _
    simp (disch := first | exact sideD | fail) only [go_sem, g2, g3, g4, g6, al_37, st_37, e1.look, kp, lo_29]
    have hz2 := isFrac_ext hz e2
    have hs0 : RSz (z0 : Rat) 2 := ⟨sz_64 hz0.1 hz0.2, one_lt_B _ (by decide)⟩
    have E2 := e2
    generalize (σ1.add (.row [.bool false, .slice none 0 0, .bool false, .slice none 0 0] 37)).set σ1.next (.row [.bool s1, .slice b1 m1 c1, .bool s2, .slice b2 m2 c2] 37) = σ2 at e2 k2 n2 hz2 E2 ⊢
    have l2 := e2.le l1
    have hP2 := slP_ext (slP_ext hw1 e1) e2
    apply use
    case hl => exact sideX
    case h => exact rOperated_ok hP2 hL hF
    rintro vo σF ho eF lF
    have n_eF := eF.next
    try simp only [add_next, set_next, fresh_next, low_next, lw_next] at n_eF
    obtain ⟨bo, no, co, rfl⟩ := li_slice ho
    have kF := (eF.look (cx := cxH) n2).trans k2
    have nF : σ1.next < σF.next := by have := eF.next; omega
    have hzF := isFrac_ext hz2 eF
    have EF := E2.trans eF
    generalize hgl : flownL L = l at ho hr ⊢
    obtain ⟨_, _, _, eq, -, hno⟩ := id ho
    injection eq with q1 q2 q3
    subst q1
    subst q2
    subst q3
    subst hno
    clear e2
    simp (disch := first | exact sideD | fail) only [go_sem, g2, g3, g4, g6]
    refine Wloop_inv (fun m g σ' => ∃ (i : Nat), m = l.length - i ∧ i ≤ l.length ∧ g 3 = .pointer (some ⟨σ.next, 0, none⟩) ∧ g 4 = .pointer (some ⟨σ.next + 1, 0, none⟩) ∧ g 6 = .pointer (some ⟨σ.next + 1 + 1, 0, none⟩) ∧ g 7 = .pointer (some ⟨σ1.next, 0, none⟩) ∧ g 8 = .slice bo l.length co ∧ g 9 = .int .i64 (i : Int) ∧ Ext' σ1 σ' ∧ σ1.next < σ'.next ∧ Li σ' (.slice bo l.length co) l ∧ RSz (redA p (z0 : Rat) (l.take i)) (2 + 13 * i) ∧
        ∃ s1 b1 m1 c1 s2 b2 m2 c2, Sym.look cxH σ' σ1.next = some (.row [.bool s1, .slice b1 m1 c1, .bool s2, .slice b2 m2 c2] 37) ∧ IsFrac σ' (.agg #[.bool s1, .slice b1 m1 c1, .bool s2, .slice b2 m2 c2]) (redA p (z0 : Rat) (l.take i))) l.length (by rfl)
      ⟨0, rfl, Nat.zero_le _, by simp (disch := first | exact sideD | fail) only [go_sem, g3], by simp (disch := first | exact sideD | fail) only [go_sem, g4], by simp (disch := first | exact sideD | fail) only [go_sem, g6], by simp (disch := first | exact sideD | fail) only [go_sem], by simp (disch := first | exact sideD | fail) only [go_sem], by simp (disch := first | exact sideD | fail) only [go_sem]; rfl, EF, nF, ho, hs0, _, _, _, _, _, _, _, _, kF, hzF⟩ ?_
    clear g2 g3 g4 g6 kF nF hzF EF ho
    rintro m g σ' ⟨i, rfl, hi, g3, g4, g6, g7, g8, g9, E, hn, hLi, hsz, s1, b1, m1, c1, s2, b2, m2, c2, k2, hz⟩
    have l3 := E.le l1
    have hp := prOk_ext (prOk_ext h1 e1) E
    have kb : Sym.look cxH σ' σ.next = some (.row [.slice bF p.F.length cF, .slice bC p.C.length cC, .slice bU p.U.length cU, .slice bX p.X.length cX, .bool p.r] 26) := (E.look (by have := e1.next; omega)).trans ((e1.look (by omega)).trans k0)
    by_cases hin : i = l.length
    · subst hin
      rw [List.take_of_length_le (Nat.le_refl _)] at hz hsz
      have e : ((l.length : Int) < (l.length : Int)) = False := eq_false (by omega)
      simp (disch := first | exact sideD | fail) only [go_sem, g3, g4, g6, g7, g8, g9, e]
      generalize hzA : redA p (z0 : Rat) l = zA at hz hsz ⊢
      have hll := hr.ll
      have hC40 := hr.lt.C.1
      refine Wloop_inv (fun m g σ'' => ∃ (j : Nat), m = p.C.length - j ∧ j ≤ p.C.length ∧ g 3 = .pointer (some ⟨σ.next, 0, none⟩) ∧ g 4 = .pointer (some ⟨σ.next + 1, 0, none⟩) ∧ g 6 = .pointer (some ⟨σ.next + 1 + 1, 0, none⟩) ∧ g 7 = .pointer (some ⟨σ1.next, 0, none⟩) ∧ g 10 = .int .i64 (j : Int) ∧ Ext' σ1 σ'' ∧ σ1.next < σ''.next ∧ RSz (redB p l zA j) (2 + 13 * l.length + 15 * j) ∧
          ∃ s1 b1 m1 c1 s2 b2 m2 c2, Sym.look cxH σ'' σ1.next = some (.row [.bool s1, .slice b1 m1 c1, .bool s2, .slice b2 m2 c2] 37) ∧ IsFrac σ'' (.agg #[.bool s1, .slice b1 m1 c1, .bool s2, .slice b2 m2 c2]) (redB p l zA j)) p.C.length (by rfl)
        ⟨0, rfl, Nat.zero_le _, by simp (disch := first | exact sideD | fail) only [go_sem, g3], by simp (disch := first | exact sideD | fail) only [go_sem, g4], by simp (disch := first | exact sideD | fail) only [go_sem, g6], by simp (disch := first | exact sideD | fail) only [go_sem, g7], by simp (disch := first | exact sideD | fail) only [go_sem]; rfl, E, hn, hsz, _, _, _, _, _, _, _, _, k2, hz⟩ ?_
      clear g3 g4 g6 g7 g8 g9 k2 hz hsz kb hp l3 hn E e hLi
      rintro m g σ' ⟨j, rfl, hj, g3, g4, g6, g7, g10, E, hn, hsz, s1, b1, m1, c1, s2, b2, m2, c2, k2, hz⟩
      have l3 := E.le l1
      have hp := prOk_ext (prOk_ext h1 e1) E
      have hP := slP_ext (slP_ext hw1 e1) E
      have kb : Sym.look cxH σ' σ.next = some (.row [.slice bF p.F.length cF, .slice bC p.C.length cC, .slice bU p.U.length cU, .slice bX p.X.length cX, .bool p.r] 26) := (E.look (by have := e1.next; omega)).trans ((e1.look (by omega)).trans k0)
      have kq : Sym.look cxH σ' (σ.next + 1) = some (.row [.string sw, .slice bw nw cw] 29) := (E.look (by have := e1.next; omega)).trans ((e1.look (by omega)).trans kp)
      by_cases hjn : j = p.C.length
      · subst hjn
        have e : ((p.C.length : Int) < (p.C.length : Int)) = False := eq_false (by omega)
        have kz : Sym.look cxH σ' (σ.next + 1 + 1) = some (.row [.bool false, .slice none 0 0, .bool false, .slice none 0 0] 37) := (E.look (by have := e1.next; omega)).trans ((e1.look (by omega)).trans kr)
        simp (disch := first | exact sideD | fail) only [go_sem, g3, g4, g6, g7, g10, e, kb, fa_26_1, lo_23_1, k2, kz, lo_37, st_37]
        exact ⟨isFrac_back (isFrac_set hz kz rfl rfl), back_ext (((e0.trans e1).trans E).set _ (by show σ.next ≤ _; omega))⟩
      · have e : ((j : Int) < (p.C.length : Int)) = True := eq_true (by omega)
        have hjl : j < p.C.length := by omega
        have hju : j < p.U.length := by have := hr.uc; omega
        obtain ⟨x, hx⟩ : ∃ x, p.C[j]? = some x := ⟨_, List.getElem?_eq_getElem hjl⟩
        obtain ⟨u, hu⟩ : ∃ x, p.U[j]? = some x := ⟨_, List.getElem?_eq_getElem hju⟩
        obtain ⟨_, _, _, eq, dC, -, okC⟩ := id hp.C
        injection eq with q1 q2 q3
        subst q1
        subst q2
        subst q3
        have s0 : (p.C.flatMap encC)[j * 2]? = some (.slice x.b x.n x.c) := getElem?_flatMap encC_len p.C j 0 (by omega) x hx
        have s1' : (p.C.flatMap encC)[j * 2 + 1]? = some (.int .i64 x.d) := getElem?_flatMap encC_len p.C j 1 (by omega) x hx
        have okx := okC x (List.mem_of_getElem? hx)
        have hx40 := hr.lt.C.2 x (List.mem_of_getElem? hx)
        have hd2 := hr.cu x (List.mem_of_getElem? hx)
        simp (disch := first | exact sideD | fail) only [go_sem, g3, g4, g6, g7, g10, e, kb, kq, fa_26_1, lo_23_1, ia_23 dC hjl, le_50 dC s0 s1', lo_29]
        apply usepD
        case hl => exact sideX
        case h => exact rCoefficient_ok (cv_cu (cvOk_lw okx)) (by rw [← okx.n]; omega) hP hL hF
        rintro _ rfl
        rw [hgl, show coefV l x.R x.d = .tuple #[.int .i64 (cf l x.R x.d : Nat), .int .i64 0] from if_neg (by omega)]
        have hcf : cf l x.R x.d ≤ 1000 := Nat.le_trans (Nat.div_le_self _ _) (Nat.le_trans hits_le hll)
        have hcq : cutQ p l j = ((cf l x.R x.d : Nat) : Int) * u.q := by unfold cutQ; rw [hx, hu]
        have hrb : redB p l zA (j + 1) = redB p l zA j - ((cf l x.R x.d : Nat) : Int) * u.q := by rw [← hcq]; rfl
        generalize cf l x.R x.d = n at hcf hcq hrb ⊢
        obtain ⟨_, _, _, eq, dU, -, okU⟩ := id hp.U
        injection eq with q1 q2 q3
        subst q1
        subst q2
        subst q3
        have t0 : (p.U.flatMap encF)[j * 4]? = some (.bool u.s1) := getElem?_flatMap encF_len p.U j 0 (by omega) u hu
        have t1 : (p.U.flatMap encF)[j * 4 + 1]? = some (.slice u.b1 u.n1 u.c1) := getElem?_flatMap encF_len p.U j 1 (by omega) u hu
        have t2 : (p.U.flatMap encF)[j * 4 + 2]? = some (.bool u.s2) := getElem?_flatMap encF_len p.U j 2 (by omega) u hu
        have t3 : (p.U.flatMap encF)[j * 4 + 3]? = some (.slice u.b2 u.n2 u.c2) := getElem?_flatMap encF_len p.U j 3 (by omega) u hu
        have oku := okU u (List.mem_of_getElem? hu)
        have hul := hr.lt.U.2 u (List.mem_of_getElem? hu)
        have gu := fv_g oku hul
        simp (disch := first | exact sideD | fail) only [go_sem, g3, g4, g6, g7, g10, k2, lo_37]
        apply useD
        case hl => exact sideX
        case h => exact rwhole_ok (by omega) (by omega)
        case hR => exact fun _ _ _ h => h
        rintro vw σ5 hW e5 l5
        have n_e5 := e5.next
        try simp only [add_next, set_next, fresh_next, low_next, lw_next] at n_e5
        obtain ⟨s5, b5, m5, c5, s6, b6, m6, c6, rfl, -⟩ := id hW
        have szn : RSz (((n : Int)) : Rat) 2 := ⟨(sz_64 (a := (n : Int)) (by omega) (by omega) : Sz (n : Int) 2), one_lt_B _ (by decide)⟩
        have gW := isFrac_g hW (rsz_le szn (show 2 ≤ 12 by decide)) (by decide)
        have gu5 := gFrac_ext gu e5
        have kb5 := (e5.look (cx := cxH) (i := σ.next) (by have := e1.next; omega)).trans kb
        have dU5 := dU.ext e5
        simp (disch := first | exact sideD | fail) only [go_sem, kb5, fa_26_2, lo_22_2, g3, g10, ia_22 dU5 hju, le_37 dU5 t0 t1 t2 t3]
        apply useD
        case hl => exact sideX
        case h => exact rfmul_ok gW gu5 (by decide)
        case hR => exact fun _ _ _ h => h
        rintro vm σ6 hM e6 l6
        have n_e6 := e6.next
        try simp only [add_next, set_next, fresh_next, low_next, lw_next] at n_e6
        obtain ⟨s7, b7, m7, c7, s8, b8, m8, c8, rfl, -⟩ := id hM
        have szm := rsz_mul szn (gFrac_rsz gu (by decide)) (by decide)
        have gM := isFrac_g hM (rsz_le szm (show 2 + 12 ≤ 15000 by decide)) (by decide)
        have gz := isFrac_g (isFrac_ext (isFrac_ext hz e5) e6) (rsz_le hsz (show 2 + 13 * l.length + 15 * j ≤ 15000 by omega)) (by decide)
        simp (disch := first | exact sideD | fail) only [go_sem]
        apply useD
        case hl => exact sideX
        case h => exact rfsub_ok gz gM (by decide) (by decide)
        case hR => exact fun _ _ _ h => h
        rintro vs σ7 hS e7 l7
        have n_e7 := e7.next
        try simp only [add_next, set_next, fresh_next, low_next, lw_next] at n_e7
        obtain ⟨s9, b9, m9, c9, s10, b10, m10, c10, rfl, -⟩ := id hS
        have k7 : Sym.look cxH σ7 σ1.next = some (.row [.bool s1, .slice b1 m1 c1, .bool s2, .slice b2 m2 c2] 37) := (((e5.trans e6).trans e7).look hn).trans k2
        have hS2 := isFrac_set (cs' := [.bool s9, .slice b9 m9 c9, .bool s10, .slice b10 m10 c10]) (e' := 37) hS k7 rfl rfl
        have hsz2 := rsz_sub hsz szm
        rw [← hrb] at hS2 hsz2
        simp (disch := first | exact sideD | fail) only [go_sem, g3, g4, g6, g7, g10, k7, st_37, wi_succ]
        exact ⟨p.C.length - (j + 1), by omega, j + 1, rfl, by omega, trivial, trivial, trivial, trivial, rfl, (E.trans ((e5.trans e6).trans e7)).set _ (Nat.le_refl _), by have := e5.next; have := e6.next; have := e7.next; first | omega | (rw [set_next]; omega), rsz_le hsz2 (by omega), _, _, _, _, _, _, _, _, rfl, hS2⟩
    · have e : ((i : Int) < (l.length : Int)) = True := eq_true (by omega)
      have hil : i < l.length := by omega
      obtain ⟨f, hf⟩ : ∃ f, l[i]? = some f := ⟨_, List.getElem?_eq_getElem hil⟩
      have hv := ints_get hf
      obtain ⟨hf0, hf1⟩ := hr.fl f (List.mem_of_getElem? hf)
      obtain ⟨fn, rfl⟩ : ∃ k : Nat, f = (k : Int) := ⟨f.toNat, by omega⟩
      have hfn : fn < p.F.length := by omega
      obtain ⟨u, hu⟩ : ∃ x, p.F[fn]? = some x := ⟨_, List.getElem?_eq_getElem hfn⟩
      obtain ⟨_, _, _, eq, dF, -, okF⟩ := id hp.F
      injection eq with q1 q2 q3
      subst q1
      subst q2
      subst q3
      obtain ⟨_, _, _, eq, dw, -⟩ := id hLi
      injection eq with q1 q2 q3
      subst q1
      subst q2
      subst q3
      have t0 : (p.F.flatMap encF)[fn * 4]? = some (.bool u.s1) := getElem?_flatMap encF_len p.F fn 0 (by omega) u hu
      have t1 : (p.F.flatMap encF)[fn * 4 + 1]? = some (.slice u.b1 u.n1 u.c1) := getElem?_flatMap encF_len p.F fn 1 (by omega) u hu
      have t2 : (p.F.flatMap encF)[fn * 4 + 2]? = some (.bool u.s2) := getElem?_flatMap encF_len p.F fn 2 (by omega) u hu
      have t3 : (p.F.flatMap encF)[fn * 4 + 3]? = some (.slice u.b2 u.n2 u.c2) := getElem?_flatMap encF_len p.F fn 3 (by omega) u hu
      have oku := okF u (List.mem_of_getElem? hu)
      have hul := hr.lt.F.2 u (List.mem_of_getElem? hu)
      have gu := fv_g oku hul
      have hll := hr.ll
      have gz : GFrac σ' _ _ 15000 := isFrac_g hz (rsz_le hsz (by omega)) (by omega)
      have gu2 : GFrac σ' (.agg #[.bool u.s1, .slice u.b1 u.n1 u.c1, .bool u.s2, .slice u.b2 u.n2 u.c2]) u.q 15000 := gFrac_le gu (by omega)
      have hfq : fq p (fn : Int) = u.q := by unfold fq; rw [Int.toNat_natCast, hu]
      simp (disch := first | exact sideD | fail) only [go_sem, g3, g4, g6, g7, g8, g9, e, kb, k2, fa_26_0, lo_22_0, ia_42 dw hil, le_3 dw hv, ia_22 dF hfn, le_37 dF t0 t1 t2 t3, lo_37]
      apply useD
      case hl => exact sideX
      case h => exact rfsub_ok gz gu2 (by omega) (by omega)
      case hR => exact fun _ _ _ h => h
      rintro vs σ3 hs e3 l4
      have n_e3 := e3.next
      try simp only [add_next, set_next, fresh_next, low_next, lw_next] at n_e3
      obtain ⟨s3, b3, m3, c3, s4, b4, m4, c4, rfl, -⟩ := id hs
      have k3 : Sym.look cxH σ3 σ1.next = some (.row [.bool s1, .slice b1 m1 c1, .bool s2, .slice b2 m2 c2] 37) := (e3.look hn).trans k2
      have hs2 := isFrac_set (cs' := [.bool s3, .slice b3 m3 c3, .bool s4, .slice b4 m4 c4]) (e' := 37) hs k3 rfl rfl
      have hL2 := li_set (cs' := [.bool s3, .slice b3 m3 c3, .bool s4, .slice b4 m4 c4]) (e' := 37) (li_ext hLi e3) k3 rfl rfl
      have hsz2 := rsz_sub hsz (gFrac_rsz gu (by omega))
      have hred2 : redA p (z0 : Rat) (l.take i) - u.q = redA p (z0 : Rat) (l.take (i + 1)) := by rw [take_snoc hf, redA_snoc, hfq]
      rw [hred2] at hs2 hsz2
      simp (disch := first | exact sideD | fail) only [go_sem, g3, g4, g6, g7, g8, g9, k3, st_37, wi_succ]
      exact ⟨l.length - (i + 1), by omega, i + 1, rfl, by omega, trivial, trivial, trivial, trivial, trivial, rfl, (E.trans e3).set _ (Nat.le_refl _), by have := e3.next; first | omega | (rw [set_next]; omega), hL2, rsz_le hsz2 (by omega), _, _, _, _, _, _, _, _, rfl, hs2⟩
  have hq0 : p.r = true → redQ p (flownL L) a = redB p (flownL L) (redA p ((0 : Int) : Rat) (flownL L)) p.C.length := fun h => by unfold redQ; rw [if_pos h]; rfl
  have hq1 : p.r = false → redQ p (flownL L) a = redB p (flownL L) (redA p (a : Rat) (flownL L)) p.C.length := fun h => by unfold redQ; rw [if_neg (by simp [h])]
  cases hpr : p.r with
  | true =>
    simp (disch := first | exact sideD | fail) only [go_sem]
    exact rest _ 0 ⟨by decide, by decide⟩ (hq0 hpr) (by simp (disch := first | exact sideD | fail) only [go_sem]) (by simp (disch := first | exact sideD | fail) only [go_sem]) (by simp (disch := first | exact sideD | fail) only [go_sem]) (by simp (disch := first | exact sideD | fail) only [go_sem])
  | false =>
    simp (disch := first | exact sideD | fail) only [go_sem]
    exact rest _ a ha (hq1 hpr) (by simp (disch := first | exact sideD | fail) only [go_sem]) (by simp (disch := first | exact sideD | fail) only [go_sem]) (by simp (disch := first | exact sideD | fail) only [go_sem]) (by simp (disch := first | exact sideD | fail) only [go_sem])
end
section
theorem scan_zero {f : Nat → Int} : ∀ {m i : Nat}, scan f i m = 0 → ∀ j, i ≤ j → j < i + m → f j = 0
  | 0, i, _, j, h1, h2 => by omega
  | m + 1, i, h, j, h1, h2 => by
    unfold scan at h
    by_cases hf : f i = 0
    · rw [if_neg (by simp [hf])] at h
      by_cases hj : j = i
      · subst hj; exact hf
      · exact scan_zero h j (by omega) (by omega)
    · rw [if_pos hf] at h
      exact absurd h hf
theorem any_bad {n : Int} {l : List Int} (h : l.any (bad n) = false) : ∀ f ∈ l, 0 ≤ f ∧ f < n := fun f hf => by
  have := List.any_eq_false.1 h f hf
  unfold bad at this
  simp only [Bool.or_eq_true, decide_eq_true_eq, not_or] at this
  omega
theorem redOk_of {n : Int} {p : Pr} {l : List Int} (h : valE n p = 0) (hb : l.any (bad n) = false) (hlt : p.light) (hl : l.length ≤ 1000) : RedOk p l := by
  have h12 : ¬ (n < 0 ∨ ¬ (p.F.length : Int) = n ∨ ¬ (p.U.length : Int) = p.C.length) := fun h' => by
    rw [valE_12 h'] at h
    cases h
  have hF : (p.F.length : Int) = n := by
    by_cases hF : (p.F.length : Int) = n
    · exact hF
    · exact absurd (.inr (.inl hF)) h12
  have hU : (p.U.length : Int) = p.C.length := by
    by_cases hU : (p.U.length : Int) = p.C.length
    · exact hU
    · exact absurd (.inr (.inr hU)) h12
  have hc : cutsE n p = 0 := by
    unfold valE at h
    rw [if_neg h12] at h
    by_cases hc : cutsE n p = 0
    · exact hc
    · by_cases h10 : (32 : Int) < p.C.length ∨ (32 : Int) < p.X.length
      · rw [if_pos h10] at h
        cases h
      · rw [if_neg h10, if_pos hc] at h
        exact h
  refine ⟨hlt, fun f hf => ?_, fun x hx => ?_, by omega, hl⟩
  · have := any_bad hb f hf
    omega
  · obtain ⟨i, hi, rfl⟩ := List.getElem_of_mem hx
    have h1 := scan_zero hc i (Nat.zero_le i) (by omega)
    rw [cutAt_of (x := p.C[i]) (u := p.U[i]'(by omega)) (List.getElem?_eq_getElem hi) (List.getElem?_eq_getElem (by omega))] at h1
    unfold cutE at h1
    by_cases hr : rowsE n p.C[i].R = 0
    · rw [if_neg (by simp [hr])] at h1
      by_cases hd : p.C[i].d < 2
      · rw [if_pos (.inl hd)] at h1
        cases h1
      · omega
    · rw [if_pos hr] at h1
      exact absurd h1 hr
def zeroF : Value := .agg #[.bool false, .slice none 0 0, .bool false, .slice none 0 0]
def RC (σ : St) (v : Value) (n : Int) (p : Pr) (l : List Int) (a : Int) : Prop :=
  (valE n p ≠ 0 ∧ v = .tuple #[zeroF, .int .i64 (valE n p)]) ∨ (valE n p = 0 ∧ l.any (bad n) = true ∧ v = .tuple #[zeroF, .int .i64 6]) ∨
    (valE n p = 0 ∧ l.any (bad n) = false ∧ RedOk p l ∧ ∃ f, v = .tuple #[f, .int .i64 0] ∧ IsFrac σ f (redQ p l a))
theorem isFrac_back' {σ0 σ : St} {v u : Value} {q : Rat} (h : IsFrac σ u q) (hv : plain v = true → plain u = true) : IsFrac (back σ0 v σ) u q := by
  obtain ⟨n1, b1, m1, c1, n2, b2, m2, c2, rfl, h1, h2⟩ := h
  exact ⟨n1, b1, m1, c1, n2, b2, m2, c2, rfl, isInt_back' h1 fun hp => (plain_4 (hv hp)).1, isInt_back' h2 fun hp => (plain_4 (hv hp)).2⟩
theorem bd_37_n {K : Value → Prop} : Wbd cxH 37 [] K = K (.agg #[.bool false, .slice none 0 0, .bool false, .slice none 0 0]) := by
  have e : opBuild cxH 37 [] = some (.agg #[.bool false, .slice none 0 0, .bool false, .slice none 0 0]) := by
    unfold opBuild
    rw [ty_37]
    rfl
  unfold Wbd
  rw [e, Wo_some]
theorem bx_3 {σ : St} {x : Int} {K : Value → St → Prop} : Wbox σ 3 (.int .i64 x) K = K (.pointer (some ⟨σ.next, 0, none⟩)) (σ.add (.row [.int .i64 x] 3)) := Wbox_of
theorem reducedCost_ok {σ : St} {v0 v1 v2 v3 w : Value} {p : Pr} {L : List (List Tk)} {n a : Int} (h : PrOk σ v0 v1 v2 v3 p) (hlt : p.light) (hw : SlP σ w L) (hL : L.length ≤ 1000) (hF : L.flatten.length ≤ 1000) (ha : inI a) :
    C cxH 7 [.int .i64 n, .agg #[v0, v1, v2, v3, .bool p.r], w, .int .i64 a] σ fun v σ' => RC σ' v n p (flownL L) a ∧ Ext' σ σ' := by
  have h0 := prOk_ext h (Ext'.to_fresh σ)
  have hw0 := slP_ext hw (Ext'.to_fresh σ)
  obtain ⟨bF, nF, cF, rfl, -, rfl, -⟩ := id h.F
  obtain ⟨bC, nC, cC, rfl, -, rfl, -⟩ := id h.C
  obtain ⟨bU, nU, cU, rfl, -, rfl, -⟩ := id h.U
  obtain ⟨bX, nX, cX, rfl, -, rfl⟩ := id h.X
  obtain ⟨sw, bw, nw, cw, rfl⟩ := slP_agg hw
  refine C_in (N := 29) (rs := [.cell 8 37, .tmp 9]) fn_7 (by rfl) (by rfl) (by rfl) (by rfl) (by rfl) (by rfl) ?_
  simp (disch := first | exact sideX | fail) only [go_sem, al_37, bx_3, bx_29]
  have e0 : Ext' σ.fresh ((((σ.fresh.add (.row [.int .i64 n] 3)).add (.row [.slice bF p.F.length cF, .slice bC p.C.length cC, .slice bU p.U.length cU, .slice bX p.X.length cX, .bool p.r] 26)).add (.row [.string sw, .slice bw nw cw] 29)).add (.row [.bool false, .slice none 0 0, .bool false, .slice none 0 0] 37)) := ((((Ext'.refl _).add _).add _).add _).add _
  have k3 : Sym.look cxH ((((σ.fresh.add (.row [.int .i64 n] 3)).add (.row [.slice bF p.F.length cF, .slice bC p.C.length cC, .slice bU p.U.length cU, .slice bX p.X.length cX, .bool p.r] 26)).add (.row [.string sw, .slice bw nw cw] 29)).add (.row [.bool false, .slice none 0 0, .bool false, .slice none 0 0] 37)) σ.next = some (.row [.int .i64 n] 3) := by simp (disch := first | exact sideD | fail) only [go_sem]
  have kx : Sym.look cxH ((((σ.fresh.add (.row [.int .i64 n] 3)).add (.row [.slice bF p.F.length cF, .slice bC p.C.length cC, .slice bU p.U.length cU, .slice bX p.X.length cX, .bool p.r] 26)).add (.row [.string sw, .slice bw nw cw] 29)).add (.row [.bool false, .slice none 0 0, .bool false, .slice none 0 0] 37)) (σ.next + 1) = some (.row [.slice bF p.F.length cF, .slice bC p.C.length cC, .slice bU p.U.length cU, .slice bX p.X.length cX, .bool p.r] 26) := by simp (disch := first | exact sideD | fail) only [go_sem]
  have kp : Sym.look cxH ((((σ.fresh.add (.row [.int .i64 n] 3)).add (.row [.slice bF p.F.length cF, .slice bC p.C.length cC, .slice bU p.U.length cU, .slice bX p.X.length cX, .bool p.r] 26)).add (.row [.string sw, .slice bw nw cw] 29)).add (.row [.bool false, .slice none 0 0, .bool false, .slice none 0 0] 37)) (σ.next + 1 + 1) = some (.row [.string sw, .slice bw nw cw] 29) := by simp (disch := first | exact sideD | fail) only [go_sem]
  have kr : Sym.look cxH ((((σ.fresh.add (.row [.int .i64 n] 3)).add (.row [.slice bF p.F.length cF, .slice bC p.C.length cC, .slice bU p.U.length cU, .slice bX p.X.length cX, .bool p.r] 26)).add (.row [.string sw, .slice bw nw cw] 29)).add (.row [.bool false, .slice none 0 0, .bool false, .slice none 0 0] 37)) (σ.next + 1 + 1 + 1) = some (.row [.bool false, .slice none 0 0, .bool false, .slice none 0 0] 37) := by simp (disch := first | exact sideD | fail) only [go_sem]
  have n0 : σ.next + 1 + 1 + 1 < ((((σ.fresh.add (.row [.int .i64 n] 3)).add (.row [.slice bF p.F.length cF, .slice bC p.C.length cC, .slice bU p.U.length cU, .slice bX p.X.length cX, .bool p.r] 26)).add (.row [.string sw, .slice bw nw cw] 29)).add (.row [.bool false, .slice none 0 0, .bool false, .slice none 0 0] 37)).next := Nat.lt_succ_self _
  have l0 := e0.fresh_le
  generalize (((σ.fresh.add (.row [.int .i64 n] 3)).add (.row [.slice bF p.F.length cF, .slice bC p.C.length cC, .slice bU p.U.length cU, .slice bX p.X.length cX, .bool p.r] 26)).add (.row [.string sw, .slice bw nw cw] 29)).add (.row [.bool false, .slice none 0 0, .bool false, .slice none 0 0] 37) = τ at e0 k3 kx kp kr n0 l0 ⊢
  have h1 := prOk_ext h0 e0
  have hw1 := slP_ext hw0 e0
  simp (disch := first | exact sideD | fail) only [go_sem, k3, kx, lo_3_0, lo_26]
  apply usep
  case h => exact validate_ok h1 hlt
  rintro _ rfl
  by_cases hz : valE n p = 0
  case neg =>
    have z1 := eq_false hz
    simp (disch := first | exact sideD | fail) only [go_sem, z1, bd_37_n, kr, st_37, lo_37]
    exact ⟨.inl ⟨hz, rfl⟩, back_ext (e0.set _ (by show σ.next ≤ _; omega))⟩
  have z1 := eq_true hz
  simp (disch := first | exact sideD | fail) only [go_sem, z1, kp, lo_29]
  apply use
  case hl => exact sideX
  case h => exact operated_ok hw1 hL hF
  rintro vo σ1 ho e1 l1
  have n_e1 := e1.next
  try simp only [add_next, set_next, fresh_next, low_next, lw_next] at n_e1
  obtain ⟨bo, no, co, rfl⟩ := li_slice ho
  have k3' := (e1.look (cx := cxH) (i := σ.next) (by omega)).trans k3
  have kx' := (e1.look (cx := cxH) (i := σ.next + 1) (by omega)).trans kx
  have kr' := (e1.look (cx := cxH) n0).trans kr
  have hfl := flownL_le hF
  have hfl2 : (flownL L).length ≤ 1000 := Nat.le_trans (flown_le _) hF
  simp (disch := first | exact sideD | fail) only [go_sem, Wop_mf, Wfnv_eq]
  apply usep
  case h => exact containsI_ok k3' ho hfl
  rintro _ rfl
  cases hb : (flownL L).any (bad n) with
  | true =>
    simp (disch := first | exact sideD | fail) only [go_sem, bd_37_n, kr', st_37, lo_37]
    exact ⟨.inr (.inl ⟨hz, hb, rfl⟩), back_ext ((e0.trans e1).set _ (by show σ.next ≤ _; omega))⟩
  | false =>
    have hr := redOk_of hz hb hlt hfl2
    have h2 := prOk_ext h1 e1
    simp (disch := first | exact sideD | fail) only [go_sem, kx', lo_26]
    apply use
    case hl => exact sideX
    case h => exact reduced_cost_ok h2 ho hr ha
    rintro vf σ2 hq e2 l2
    have n_e2 := e2.next
    try simp only [add_next, set_next, fresh_next, low_next, lw_next] at n_e2
    obtain ⟨s1, b1, m1, c1, s2, b2, m2, c2, rfl, -⟩ := id hq
    have kr2 := (e2.look (cx := cxH) (i := σ.next + 1 + 1 + 1) (by have := e1.next; omega)).trans kr'
    have hq2 := isFrac_set (cs' := [.bool s1, .slice b1 m1 c1, .bool s2, .slice b2 m2 c2]) (e' := 37) hq kr2 rfl rfl
    simp (disch := first | exact sideD | fail) only [go_sem, kr2, st_37, lo_37]
    exact ⟨.inr (.inr ⟨hz, hb, hr, _, rfl, isFrac_back' hq2 fun hp => (plain_t2' hp).1⟩), back_ext (((e0.trans e1).trans e2).set _ (by show σ.next ≤ _; omega))⟩
theorem rreducedCost_ok {σ : St} {v0 v1 v2 v3 w : Value} {p : Pr} {L : List (List Tk)} {n a : Int} (h : PrOk σ v0 v1 v2 v3 p) (hlt : p.light) (hw : SlP σ w L) (hL : L.length ≤ 1000) (hF : L.flatten.length ≤ 1000) (ha : inI a) :
    C cxH 8 [.int .i64 n, .agg #[v0, v1, v2, v3, .bool p.r], w, .int .i64 a] σ fun v σ' => RC σ' v n p (flownL L) a ∧ Ext' σ σ' := by
  have h0 := prOk_ext h (Ext'.to_fresh σ)
  have hw0 := slP_ext hw (Ext'.to_fresh σ)
  obtain ⟨bF, nF, cF, rfl, -, rfl, -⟩ := id h.F
  obtain ⟨bC, nC, cC, rfl, -, rfl, -⟩ := id h.C
  obtain ⟨bU, nU, cU, rfl, -, rfl, -⟩ := id h.U
  obtain ⟨bX, nX, cX, rfl, -, rfl⟩ := id h.X
  obtain ⟨sw, bw, nw, cw, rfl⟩ := slP_agg hw
  refine C_in (N := 46) (rs := [.cell 8 37, .tmp 9]) fn_8 (by rfl) (by rfl) (by rfl) (by rfl) (by rfl) (by rfl) ?_
  simp (disch := first | exact sideX | fail) only [go_sem, al_37, bx_29]
  have e0 : Ext' σ.fresh (((σ.fresh.add (.row [.slice bF p.F.length cF, .slice bC p.C.length cC, .slice bU p.U.length cU, .slice bX p.X.length cX, .bool p.r] 26)).add (.row [.string sw, .slice bw nw cw] 29)).add (.row [.bool false, .slice none 0 0, .bool false, .slice none 0 0] 37)) := (((Ext'.refl _).add _).add _).add _
  have kx : Sym.look cxH (((σ.fresh.add (.row [.slice bF p.F.length cF, .slice bC p.C.length cC, .slice bU p.U.length cU, .slice bX p.X.length cX, .bool p.r] 26)).add (.row [.string sw, .slice bw nw cw] 29)).add (.row [.bool false, .slice none 0 0, .bool false, .slice none 0 0] 37)) σ.next = some (.row [.slice bF p.F.length cF, .slice bC p.C.length cC, .slice bU p.U.length cU, .slice bX p.X.length cX, .bool p.r] 26) := by simp (disch := first | exact sideD | fail) only [go_sem]
  have kp : Sym.look cxH (((σ.fresh.add (.row [.slice bF p.F.length cF, .slice bC p.C.length cC, .slice bU p.U.length cU, .slice bX p.X.length cX, .bool p.r] 26)).add (.row [.string sw, .slice bw nw cw] 29)).add (.row [.bool false, .slice none 0 0, .bool false, .slice none 0 0] 37)) (σ.next + 1) = some (.row [.string sw, .slice bw nw cw] 29) := by simp (disch := first | exact sideD | fail) only [go_sem]
  have kr : Sym.look cxH (((σ.fresh.add (.row [.slice bF p.F.length cF, .slice bC p.C.length cC, .slice bU p.U.length cU, .slice bX p.X.length cX, .bool p.r] 26)).add (.row [.string sw, .slice bw nw cw] 29)).add (.row [.bool false, .slice none 0 0, .bool false, .slice none 0 0] 37)) (σ.next + 1 + 1) = some (.row [.bool false, .slice none 0 0, .bool false, .slice none 0 0] 37) := by simp (disch := first | exact sideD | fail) only [go_sem]
  have n0 : σ.next + 1 + 1 < (((σ.fresh.add (.row [.slice bF p.F.length cF, .slice bC p.C.length cC, .slice bU p.U.length cU, .slice bX p.X.length cX, .bool p.r] 26)).add (.row [.string sw, .slice bw nw cw] 29)).add (.row [.bool false, .slice none 0 0, .bool false, .slice none 0 0] 37)).next := Nat.lt_succ_self _
  have l0 := e0.fresh_le
  generalize ((σ.fresh.add (.row [.slice bF p.F.length cF, .slice bC p.C.length cC, .slice bU p.U.length cU, .slice bX p.X.length cX, .bool p.r] 26)).add (.row [.string sw, .slice bw nw cw] 29)).add (.row [.bool false, .slice none 0 0, .bool false, .slice none 0 0] 37) = τ at e0 kx kp kr n0 l0 ⊢
  have h1 := prOk_ext h0 e0
  have hw1 := slP_ext hw0 e0
  simp (disch := first | exact sideD | fail) only [go_sem, kx, lo_26]
  apply usep
  case h => exact rvalidate_ok h1 hlt
  rintro _ rfl
  by_cases hz : valE n p = 0
  case neg =>
    have z1 := eq_false hz
    simp (disch := first | exact sideD | fail) only [go_sem, z1, bd_37_n, kr, st_37, lo_37]
    exact ⟨.inl ⟨hz, rfl⟩, back_ext (e0.set _ (by show σ.next ≤ _; omega))⟩
  have z1 := eq_true hz
  simp (disch := first | exact sideD | fail) only [go_sem, z1, kp, lo_29]
  apply use
  case hl => exact sideX
  case h => exact rOperated_ok hw1 hL hF
  rintro vo σ1 ho e1 l1
  have n_e1 := e1.next
  try simp only [add_next, set_next, fresh_next, low_next, lw_next] at n_e1
  have kx' := (e1.look (cx := cxH) (i := σ.next) (by omega)).trans kx
  have kp' := (e1.look (cx := cxH) (i := σ.next + 1) (by omega)).trans kp
  have kr' := (e1.look (cx := cxH) n0).trans kr
  have hfl2 : (flownL L).length ≤ 1000 := Nat.le_trans (flown_le _) hF
  have h2 := prOk_ext h1 e1
  have hw2 := slP_ext hw1 e1
  generalize hgl : flownL L = l at ho hfl2 ⊢
  obtain ⟨bo, no, co, rfl, dl, rfl⟩ := ho
  simp (disch := first | exact sideD | fail) only [go_sem]
  refine Wloop_inv (fun m g σ' => ∃ (i : Nat), m = l.length - i ∧ i ≤ l.length ∧ g 0 = .int .i64 n ∧ g 3 = .int .i64 a ∧ g 5 = .pointer (some ⟨σ.next, 0, none⟩) ∧ g 6 = .pointer (some ⟨σ.next + 1, 0, none⟩) ∧ g 8 = .pointer (some ⟨σ.next + 1 + 1, 0, none⟩) ∧ g 11 = .slice bo l.length co ∧ g 12 = .int .i64 (i : Int) ∧ σ1 = σ' ∧ ∀ x ∈ l.take i, bad n x = false) l.length (by rfl)
    ⟨0, rfl, Nat.zero_le _, by simp (disch := first | exact sideD | fail) only [go_sem], by simp (disch := first | exact sideD | fail) only [go_sem], by simp (disch := first | exact sideD | fail) only [go_sem], by simp (disch := first | exact sideD | fail) only [go_sem], by simp (disch := first | exact sideD | fail) only [go_sem], by simp (disch := first | exact sideD | fail) only [go_sem], by simp (disch := first | exact sideD | fail) only [go_sem]; rfl, rfl, by simp⟩ ?_
  rintro m g _ ⟨i, rfl, hi, g0, g3, g5, g6, g8, g11, g12, rfl, hno⟩
  by_cases hin : i = l.length
  · subst hin
    have e : ((l.length : Int) < (l.length : Int)) = False := eq_false (by omega)
    rw [List.take_of_length_le (Nat.le_refl _)] at hno
    have hb : l.any (bad n) = false := List.any_eq_false.2 fun x hx => by rw [hno x hx]; decide
    have hr := redOk_of hz hb hlt hfl2
    have hr2 : RedOk p (flownL L) := by rw [hgl]; exact hr
    simp (disch := first | exact sideD | fail) only [go_sem, g0, g3, g5, g6, g8, g11, g12, e, kx', kp', lo_26, lo_29]
    apply use
    case hl => exact sideX
    case h => exact rreduced_cost_ok h2 hw2 hL hF hr2 ha
    rintro vf σ2 hq e2 l2
    have n_e2 := e2.next
    try simp only [add_next, set_next, fresh_next, low_next, lw_next] at n_e2
    rw [hgl] at hq
    obtain ⟨s1, b1, m1, c1, s2, b2, m2, c2, rfl, -⟩ := id hq
    have kr2 := (e2.look (cx := cxH) (i := σ.next + 1 + 1) (by have := e1.next; omega)).trans kr'
    have hq2 := isFrac_set (cs' := [.bool s1, .slice b1 m1 c1, .bool s2, .slice b2 m2 c2]) (e' := 37) hq kr2 rfl rfl
    simp (disch := first | exact sideD | fail) only [go_sem, g8, kr2, st_37, lo_37]
    exact ⟨.inr (.inr ⟨hz, hb, hr, _, rfl, isFrac_back' hq2 fun hp => (plain_t2' hp).1⟩), back_ext (((e0.trans e1).trans e2).set _ (by show σ.next ≤ _; omega))⟩
  · have e : ((i : Int) < (l.length : Int)) = True := eq_true (by omega)
    have hil : i < l.length := by omega
    obtain ⟨x, hx⟩ : ∃ x, l[i]? = some x := ⟨_, List.getElem?_eq_getElem hil⟩
    have hv := ints_get hx
    have hany : bad n x = true → l.any (bad n) = true := fun hb => List.any_eq_true.2 ⟨x, List.mem_of_getElem? hx, hb⟩
    by_cases hx0 : x < 0
    · have a1 := eq_true hx0
      simp (disch := first | exact sideD | fail) only [go_sem, g0, g3, g5, g6, g8, g11, g12, e, a1, ia_42 dl hil, le_3 dl hv, bd_37_n, kr', st_37, lo_37]
      exact ⟨.inr (.inl ⟨hz, hany (bad_l hx0), rfl⟩), back_ext ((e0.trans e1).set _ (by show σ.next ≤ _; omega))⟩
    have a1 := eq_false hx0
    by_cases hxn : n ≤ x
    · have a2 := eq_true hxn
      simp (disch := first | exact sideD | fail) only [go_sem, g0, g3, g5, g6, g8, g11, g12, e, a1, a2, ia_42 dl hil, le_3 dl hv, bd_37_n, kr', st_37, lo_37]
      exact ⟨.inr (.inl ⟨hz, hany (bad_r hxn), rfl⟩), back_ext ((e0.trans e1).set _ (by show σ.next ≤ _; omega))⟩
    have a2 := eq_false hxn
    simp (disch := first | exact sideD | fail) only [go_sem, g0, g3, g5, g6, g8, g11, g12, e, a1, a2, ia_42 dl hil, le_3 dl hv, wi_succ]
    refine ⟨l.length - (i + 1), by omega, i + 1, rfl, by omega, trivial, trivial, trivial, trivial, trivial, trivial, rfl, trivial, ?_⟩
    rw [take_snoc hx]
    intro y hy
    rcases List.mem_append.1 hy with h | h
    · exact hno y h
    · rw [List.mem_singleton.1 h]
      exact bad_n hx0 hxn
end
end
end Go.Proofs.YtfdflggfffajaaaGreatDoor
