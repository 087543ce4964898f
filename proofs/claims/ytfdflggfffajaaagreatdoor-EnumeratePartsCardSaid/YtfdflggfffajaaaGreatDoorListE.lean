/- The reduced cost of the given program. -/
import Derived.Test.YtfdflggfffajaaaGreatDoorListD
set_option linter.unusedVariables false
set_option linter.unusedSimpArgs false
set_option linter.unusedSectionVars false
namespace Go.Proofs.YtfdflggfffajaaaGreatDoor
open Go Go.Num Go.Proofs
open Go.Sym hiding val
noncomputable section
attribute [local congr] blk_congr Wpick_congr Wgd_congr Wgd'_congr Wcond_congr Wbin_congr Wun_congr Wconv_congr Wext_congr Wfa_congr Wfd_congr Wia_congr Wld_congr Wlen_congr Wst_congr Wbox_congr WldO_congr WstO_congr Wmk_congr Wsl_congr Wap_congr Wbs_congr Wbd_congr Wfn_congr C_congr
set_option maxHeartbeats 2000000
section
theorem rsz_le {q : Rat} {k j : Nat} (h : RSz q k) (hk : k ≤ j) : RSz q j := ⟨h.1.le hk, h.2.le hk⟩
theorem rsz_mul {p q : Rat} {k j : Nat} (h : RSz p k) (h2 : RSz q j) (hk : 1 ≤ k) : RSz (p * q) (k + j) := by
  have e : p * q = Rat.divInt (p.num * q.num) (p.den * q.den) := by
    rw [← Rat.divInt_mul_divInt, Rat.num_divInt_den, Rat.num_divInt_den]
  rw [e]
  exact rsz_divInt (h.1.mul h2.1) (h.2.mul h2.2) (by omega)
theorem rsz_sub {p q : Rat} {k j : Nat} (h : RSz p k) (h2 : RSz q j) : RSz (p - q) (k + j + 1) := by
  have hp0 : (p.den : Int) ≠ 0 := by have := p.den_nz; omega
  have hq0 : (q.den : Int) ≠ 0 := by have := q.den_nz; omega
  have e : p - q = Rat.divInt (p.num * q.den - q.num * p.den) (p.den * q.den) := by
    rw [← Rat.divInt_sub_divInt _ _ hp0 hq0, Rat.num_divInt_den, Rat.num_divInt_den]
  rw [e]
  have s1 : Sz (p.num * q.den) (k + j) := h.1.mul h2.2
  have s2 : Sz (-(q.num * p.den)) (k + j) := (h2.1.mul h.2).neg.le (by omega)
  have s3 := s1.add s2
  rw [← Int.sub_eq_add_neg] at s3
  exact rsz_divInt (s3.le (by omega)) ((h.2.mul h2.2).le (by omega)) (by omega)
def fq (p : Pr) (f : Int) : Rat := match p.F[f.toNat]? with
  | some x => x.q
  | none => 0
def cutQ (p : Pr) (l : List Int) (j : Nat) : Rat := match p.C[j]?, p.U[j]? with
  | some x, some u => ((cf l x.R x.d : Nat) : Int) * u.q
  | _, _ => 0
def redA (p : Pr) (z : Rat) : List Int → Rat
  | [] => z
  | f :: r => redA p (z - fq p f) r
def redB (p : Pr) (l : List Int) (z : Rat) : Nat → Rat
  | 0 => z
  | j + 1 => redB p l z j - cutQ p l j
def redQ (p : Pr) (l : List Int) (b : Int) : Rat := redB p l (redA p (if p.r then 0 else b) l) p.C.length
theorem redA_snoc {p : Pr} {f : Int} : ∀ {l : List Int} {z : Rat}, redA p z (l ++ [f]) = redA p z l - fq p f
  | [], z => rfl
  | g :: r, z => redA_snoc (l := r) (z := z - fq p g)
end
section
structure RedOk (p : Pr) (l : List Int) : Prop where
  lt : p.light
  fl : ∀ f ∈ l, 0 ≤ f ∧ f < (p.F.length : Int)
  cu : ∀ x ∈ p.C, 2 ≤ x.d
  uc : p.U.length = p.C.length
  ll : l.length ≤ 1000
theorem reduced_cost_ok {σ : St} {v0 v1 v2 v3 w : Value} {p : Pr} {l : List Int} {a : Int} (h : PrOk σ v0 v1 v2 v3 p) (hw : Li σ w l) (hr : RedOk p l) (ha : inI a) : C cxH 27 [.agg #[v0, v1, v2, v3, .bool p.r], w, .int .i64 a] σ fun v σ' => IsFrac σ' v (redQ p l a) ∧ Ext' σ σ' := by
  have h0 := prOk_ext h (Ext'.to_fresh σ)
  have hw0 := li_ext hw (Ext'.to_fresh σ)
  obtain ⟨bF, nF, cF, rfl, -, rfl, -⟩ := id h.F
  obtain ⟨bC, nC, cC, rfl, -, rfl, -⟩ := id h.C
  obtain ⟨bU, nU, cU, rfl, -, rfl, -⟩ := id h.U
  obtain ⟨bX, nX, cX, rfl, -, rfl⟩ := id h.X
  obtain ⟨bw, nw, cw, rfl, -, rfl⟩ := id hw
  refine C_in (N := 56) (rs := [.cell 6 37]) fn_27 (by rfl) (by rfl) (by rfl) (by rfl) (by rfl) (by rfl) ?_
  simp (disch := first | exact sideX | fail) only [go_sem, al_37]
  have e0 : Ext' σ.fresh ((σ.fresh.add (.row [.slice bF p.F.length cF, .slice bC p.C.length cC, .slice bU p.U.length cU, .slice bX p.X.length cX, .bool p.r] 26)).add (.row [.bool false, .slice none 0 0, .bool false, .slice none 0 0] 37)) := ((Ext'.refl _).add _).add _
  have k0 : Sym.look cxH ((σ.fresh.add (.row [.slice bF p.F.length cF, .slice bC p.C.length cC, .slice bU p.U.length cU, .slice bX p.X.length cX, .bool p.r] 26)).add (.row [.bool false, .slice none 0 0, .bool false, .slice none 0 0] 37)) σ.next = some (.row [.slice bF p.F.length cF, .slice bC p.C.length cC, .slice bU p.U.length cU, .slice bX p.X.length cX, .bool p.r] 26) := by simp (disch := first | exact sideD | fail) only [go_sem]
  have kr : Sym.look cxH ((σ.fresh.add (.row [.slice bF p.F.length cF, .slice bC p.C.length cC, .slice bU p.U.length cU, .slice bX p.X.length cX, .bool p.r] 26)).add (.row [.bool false, .slice none 0 0, .bool false, .slice none 0 0] 37)) (σ.next + 1) = some (.row [.bool false, .slice none 0 0, .bool false, .slice none 0 0] 37) := by simp (disch := first | exact sideD | fail) only [go_sem]
  have n0 : σ.next + 1 < ((σ.fresh.add (.row [.slice bF p.F.length cF, .slice bC p.C.length cC, .slice bU p.U.length cU, .slice bX p.X.length cX, .bool p.r] 26)).add (.row [.bool false, .slice none 0 0, .bool false, .slice none 0 0] 37)).next := Nat.lt_succ_self _
  have l0 := e0.fresh_le
  generalize (σ.fresh.add (.row [.slice bF p.F.length cF, .slice bC p.C.length cC, .slice bU p.U.length cU, .slice bX p.X.length cX, .bool p.r] 26)).add (.row [.bool false, .slice none 0 0, .bool false, .slice none 0 0] 37) = τ at e0 k0 kr n0 l0 ⊢
  have h1 := prOk_ext h0 e0
  have hw1 := li_ext hw0 e0
  simp (disch := first | exact sideX | fail) only [go_sem, k0, fa_26_4, lo_4_4]
  generalize hQ : seqQ cxH 56 _ _ = Q
  have rest : ∀ (g : Fm) (z0 : Int), inI z0 → redQ p l a = redB p l (redA p (z0 : Rat) l) p.C.length → g 1 = .slice bw l.length cw → g 2 = .int .i64 z0 → g 3 = .pointer (some ⟨σ.next, 0, none⟩) → g 6 = .pointer (some ⟨σ.next + 1, 0, none⟩) → Q .normal g τ := by
    subst hQ
    intro g z0 hz0 hred g1 g2 g3 g6
    rw [hred]
    simp (disch := first | exact sideD | fail) only [go_sem, g1, g2, g3, g6]
    apply use
    case hl => exact sideX
    case h => exact whole_ok hz0.1 hz0.2
    rintro vz σ1 hz e1 l1
    have n_e1 := e1.next
    try simp only [add_next, set_next, fresh_next, low_next, lw_next] at n_e1
    obtain ⟨s1, b1, m1, c1, s2, b2, m2, c2, rfl, -⟩ := id hz
    have e2 : Ext' σ1 ((σ1.add (.row [.bool false, .slice none 0 0, .bool false, .slice none 0 0] 37)).set σ1.next (.row [.bool s1, .slice b1 m1 c1, .bool s2, .slice b2 m2 c2] 37)) := ((Ext'.refl _).add _).set _ (Nat.le_refl _)
    have k2 : Sym.look cxH ((σ1.add (.row [.bool false, .slice none 0 0, .bool false, .slice none 0 0] 37)).set σ1.next (.row [.bool s1, .slice b1 m1 c1, .bool s2, .slice b2 m2 c2] 37)) σ1.next = some (.row [.bool s1, .slice b1 m1 c1, .bool s2, .slice b2 m2 c2] 37) := look_set rfl
    have n2 : σ1.next < ((σ1.add (.row [.bool false, .slice none 0 0, .bool false, .slice none 0 0] 37)).set σ1.next (.row [.bool s1, .slice b1 m1 c1, .bool s2, .slice b2 m2 c2] 37)).next := Nat.lt_succ_self _
    simp (disch := first | exact sideD | fail) only [go_sem, g1, g2, g3, g6, al_37, st_37]
    have hz2 := isFrac_ext hz e2
    have hs0 : RSz (z0 : Rat) 2 := ⟨sz_64 hz0.1 hz0.2, one_lt_B _ (by decide)⟩
    have E2 := e2
    generalize (σ1.add (.row [.bool false, .slice none 0 0, .bool false, .slice none 0 0] 37)).set σ1.next (.row [.bool s1, .slice b1 m1 c1, .bool s2, .slice b2 m2 c2] 37) = σ2 at e2 k2 n2 hz2 E2 ⊢
    refine Wloop_inv (fun m g σ' => ∃ (i : Nat), m = l.length - i ∧ i ≤ l.length ∧ g 1 = .slice bw l.length cw ∧ g 3 = .pointer (some ⟨σ.next, 0, none⟩) ∧ g 6 = .pointer (some ⟨σ.next + 1, 0, none⟩) ∧ g 7 = .pointer (some ⟨σ1.next, 0, none⟩) ∧ g 17 = .slice bw l.length cw ∧ g 18 = .int .i64 (l.length : Int) ∧ g 19 = .int .i64 (i : Int) ∧ Ext' σ1 σ' ∧ σ1.next < σ'.next ∧ RSz (redA p (z0 : Rat) (l.take i)) (2 + 13 * i) ∧
        ∃ s1 b1 m1 c1 s2 b2 m2 c2, Sym.look cxH σ' σ1.next = some (.row [.bool s1, .slice b1 m1 c1, .bool s2, .slice b2 m2 c2] 37) ∧ IsFrac σ' (.agg #[.bool s1, .slice b1 m1 c1, .bool s2, .slice b2 m2 c2]) (redA p (z0 : Rat) (l.take i))) l.length (by rfl)
      ⟨0, rfl, Nat.zero_le _, by simp (disch := first | exact sideD | fail) only [go_sem, g1], by simp (disch := first | exact sideD | fail) only [go_sem, g3], by simp (disch := first | exact sideD | fail) only [go_sem, g6], by simp (disch := first | exact sideD | fail) only [go_sem], by simp (disch := first | exact sideD | fail) only [go_sem, g1], by simp (disch := first | exact sideD | fail) only [go_sem], by simp (disch := first | exact sideD | fail) only [go_sem]; rfl, E2, n2, hs0, _, _, _, _, _, _, _, _, k2, hz2⟩ ?_
    clear g1 g2 g3 g6 k2 n2 hz2 E2 e2
    rintro m g σ' ⟨i, rfl, hi, g1, g3, g6, g7, g17, g18, g19, E, hn, hsz, s1, b1, m1, c1, s2, b2, m2, c2, k2, hz⟩
    have l3 := E.le l1
    have hp := prOk_ext (prOk_ext h1 e1) E
    obtain ⟨_, _, _, eq, dw, -⟩ := li_ext (li_ext hw1 e1) E
    injection eq with q1 q2 q3
    subst q1
    subst q2
    subst q3
    have kb : Sym.look cxH σ' σ.next = some (.row [.slice bF p.F.length cF, .slice bC p.C.length cC, .slice bU p.U.length cU, .slice bX p.X.length cX, .bool p.r] 26) := (E.look (by have := e1.next; omega)).trans ((e1.look (by omega)).trans k0)
    by_cases hin : i = l.length
    · subst hin
      rw [List.take_of_length_le (Nat.le_refl _)] at hz hsz
      have e : ((l.length : Int) < (l.length : Int)) = False := eq_false (by omega)
      simp (disch := first | exact sideD | fail) only [go_sem, g1, g3, g6, g7, g17, g18, g19, e, kb, fa_26_1, lo_23_1]
      generalize hzA : redA p (z0 : Rat) l = zA at hz hsz ⊢
      have hll := hr.ll
      have hC40 := hr.lt.C.1
      refine Wloop_inv (fun m g σ'' => ∃ (j : Nat), m = p.C.length - j ∧ j ≤ p.C.length ∧ g 1 = .slice bw l.length cw ∧ g 3 = .pointer (some ⟨σ.next, 0, none⟩) ∧ g 6 = .pointer (some ⟨σ.next + 1, 0, none⟩) ∧ g 7 = .pointer (some ⟨σ1.next, 0, none⟩) ∧ g 32 = .slice bC p.C.length cC ∧ g 33 = .int .i64 (p.C.length : Int) ∧ g 34 = .int .i64 (j : Int) ∧ Ext' σ1 σ'' ∧ σ1.next < σ''.next ∧ RSz (redB p l zA j) (2 + 13 * l.length + 15 * j) ∧
          ∃ s1 b1 m1 c1 s2 b2 m2 c2, Sym.look cxH σ'' σ1.next = some (.row [.bool s1, .slice b1 m1 c1, .bool s2, .slice b2 m2 c2] 37) ∧ IsFrac σ'' (.agg #[.bool s1, .slice b1 m1 c1, .bool s2, .slice b2 m2 c2]) (redB p l zA j)) p.C.length (by rfl)
        ⟨0, rfl, Nat.zero_le _, by simp (disch := first | exact sideD | fail) only [go_sem, g1], by simp (disch := first | exact sideD | fail) only [go_sem, g3], by simp (disch := first | exact sideD | fail) only [go_sem, g6], by simp (disch := first | exact sideD | fail) only [go_sem, g7], by simp (disch := first | exact sideD | fail) only [go_sem], by simp (disch := first | exact sideD | fail) only [go_sem], by simp (disch := first | exact sideD | fail) only [go_sem]; rfl, E, hn, hsz, _, _, _, _, _, _, _, _, k2, hz⟩ ?_
      clear g1 g3 g6 g7 g17 g18 g19 k2 hz hsz kb dw hp l3 hn E e
      rintro m g σ' ⟨j, rfl, hj, g1, g3, g6, g7, g32, g33, g34, E, hn, hsz, s1, b1, m1, c1, s2, b2, m2, c2, k2, hz⟩
      have l3 := E.le l1
      have hp := prOk_ext (prOk_ext h1 e1) E
      have hw3 := li_ext (li_ext hw1 e1) E
      have kb : Sym.look cxH σ' σ.next = some (.row [.slice bF p.F.length cF, .slice bC p.C.length cC, .slice bU p.U.length cU, .slice bX p.X.length cX, .bool p.r] 26) := (E.look (by have := e1.next; omega)).trans ((e1.look (by omega)).trans k0)
      by_cases hjn : j = p.C.length
      · subst hjn
        have e : ((p.C.length : Int) < (p.C.length : Int)) = False := eq_false (by omega)
        have kz : Sym.look cxH σ' (σ.next + 1) = some (.row [.bool false, .slice none 0 0, .bool false, .slice none 0 0] 37) := (E.look (by have := e1.next; omega)).trans ((e1.look (by omega)).trans kr)
        simp (disch := first | exact sideD | fail) only [go_sem, g1, g3, g6, g7, g32, g33, g34, e, k2, kz, lo_37, st_37]
        exact ⟨isFrac_back (isFrac_set hz kz rfl rfl), back_ext (((e0.trans e1).trans E).set _ (by show σ.next ≤ _; omega))⟩
      · have e : ((j : Int) < (p.C.length : Int)) = True := eq_true (by omega)
        have hjl : j < p.C.length := by omega
        have hju : j < p.U.length := by have := hr.uc; omega
        obtain ⟨x, hx⟩ : ∃ x, p.C[j]? = some x := ⟨_, List.getElem?_eq_getElem hjl⟩
        obtain ⟨u, hu⟩ : ∃ x, p.U[j]? = some x := ⟨_, List.getElem?_eq_getElem hju⟩
        obtain ⟨_, _, _, eq, dC, -, okC⟩ := id hp.C
        injection eq with q1 q2 q3
        subst q1
        subst q2
        subst q3
        have s0 : (p.C.flatMap encC)[j * 2]? = some (.slice x.b x.n x.c) := getElem?_flatMap encC_len p.C j 0 (by omega) x hx
        have s1' : (p.C.flatMap encC)[j * 2 + 1]? = some (.int .i64 x.d) := getElem?_flatMap encC_len p.C j 1 (by omega) x hx
        have e3' : Ext' σ' ((σ'.add (.row [.slice none 0 0, .int .i64 0] 50)).set σ'.next (.row [.slice x.b x.n x.c, .int .i64 x.d] 50)) := ((Ext'.refl _).add _).set _ (Nat.le_refl _)
        have k3 : Sym.look cxH ((σ'.add (.row [.slice none 0 0, .int .i64 0] 50)).set σ'.next (.row [.slice x.b x.n x.c, .int .i64 x.d] 50)) σ'.next = some (.row [.slice x.b x.n x.c, .int .i64 x.d] 50) := look_set rfl
        have okx := cvOk_ext (okC x (List.mem_of_getElem? hx)) e3'
        have hx40 := hr.lt.C.2 x (List.mem_of_getElem? hx)
        have hd2 := hr.cu x (List.mem_of_getElem? hx)
        simp (disch := first | exact sideX | fail) only [go_sem, g1, g3, g6, g7, g32, g33, g34, e, ia_23 dC hjl, le_50 dC s0 s1', al_50, st_50]
        have E4 := E.trans e3'
        have n4 := e3'.next
        have l4 := E4.le l1
        generalize (σ'.add (.row [.slice none 0 0, .int .i64 0] 50)).set σ'.next (.row [.slice x.b x.n x.c, .int .i64 x.d] 50) = σ4 at e3' k3 okx E4 n4 l4 ⊢
        have hw4 := li_ext hw3 e3'
        have hz4 := isFrac_ext hz e3'
        have k4 := (e3'.look (cx := cxH) hn).trans k2
        have kb4 := (e3'.look (cx := cxH) (i := σ.next) (by have := e1.next; omega)).trans kb
        have hp4 := prOk_ext hp e3'
        have hn4 : σ1.next < σ4.next := by omega
        simp (disch := first | exact sideD | fail) only [go_sem, g1, g3, g6, g7, g32, g33, g34, k3, lo_50]
        apply usep
        case h => exact coefficient_ok (cv_cu okx) hw4 (by omega) (by rw [← okx.n]; omega) hd2
        rintro _ rfl
        have hcf : cf l x.R x.d ≤ 1000 := Nat.le_trans (Nat.div_le_self _ _) (Nat.le_trans hits_le hll)
        have hcq : cutQ p l j = ((cf l x.R x.d : Nat) : Int) * u.q := by unfold cutQ; rw [hx, hu]
        have hrb : redB p l zA (j + 1) = redB p l zA j - ((cf l x.R x.d : Nat) : Int) * u.q := by rw [← hcq]; rfl
        generalize cf l x.R x.d = n at hcf hcq hrb ⊢
        by_cases hn0 : (0 : Int) < (n : Int)
        · have a1 := eq_true hn0
          obtain ⟨_, _, _, eq, dU, -, okU⟩ := id hp4.U
          injection eq with q1 q2 q3
          subst q1
          subst q2
          subst q3
          have t0 : (p.U.flatMap encF)[j * 4]? = some (.bool u.s1) := getElem?_flatMap encF_len p.U j 0 (by omega) u hu
          have t1 : (p.U.flatMap encF)[j * 4 + 1]? = some (.slice u.b1 u.n1 u.c1) := getElem?_flatMap encF_len p.U j 1 (by omega) u hu
          have t2 : (p.U.flatMap encF)[j * 4 + 2]? = some (.bool u.s2) := getElem?_flatMap encF_len p.U j 2 (by omega) u hu
          have t3 : (p.U.flatMap encF)[j * 4 + 3]? = some (.slice u.b2 u.n2 u.c2) := getElem?_flatMap encF_len p.U j 3 (by omega) u hu
          have oku := okU u (List.mem_of_getElem? hu)
          have hul := hr.lt.U.2 u (List.mem_of_getElem? hu)
          have gu := fv_g oku hul
          simp (disch := first | exact sideD | fail) only [go_sem, g1, g3, g6, g7, g32, g33, g34, a1, k4, lo_37]
          apply useD
          case hl => exact sideX
          case h => exact whole_ok (by omega) (by omega)
          case hR => exact fun _ _ _ h => h
          rintro vw σ5 hW e5 l5
          have n_e5 := e5.next
          try simp only [add_next, set_next, fresh_next, low_next, lw_next] at n_e5
          obtain ⟨s5, b5, m5, c5, s6, b6, m6, c6, rfl, -⟩ := id hW
          have szn : RSz (((n : Int)) : Rat) 2 := ⟨(sz_64 (a := (n : Int)) (by omega) (by omega) : Sz (n : Int) 2), one_lt_B _ (by decide)⟩
          have gW := isFrac_g hW (rsz_le szn (show 2 ≤ 12 by decide)) (by decide)
          have gu5 := gFrac_ext gu e5
          have kb5 := (e5.look (cx := cxH) (i := σ.next) (by have := e1.next; omega)).trans kb4
          have dU5 := dU.ext e5
          simp (disch := first | exact sideD | fail) only [go_sem, kb5, fa_26_2, lo_22_2, g3, g34, ia_22 dU5 hju, le_37 dU5 t0 t1 t2 t3]
          apply useD
          case hl => exact sideX
          case h => exact fmul_ok gW gu5 (by decide) (by decide)
          case hR => exact fun _ _ _ h => h
          rintro vm σ6 hM e6 l6
          have n_e6 := e6.next
          try simp only [add_next, set_next, fresh_next, low_next, lw_next] at n_e6
          obtain ⟨s7, b7, m7, c7, s8, b8, m8, c8, rfl, -⟩ := id hM
          have szm := rsz_mul szn (gFrac_rsz gu (by decide)) (by decide)
          have gM := isFrac_g hM (rsz_le szm (show 2 + 12 ≤ 15000 by decide)) (by decide)
          have gz := isFrac_g (isFrac_ext (isFrac_ext hz4 e5) e6) (rsz_le hsz (show 2 + 13 * l.length + 15 * j ≤ 15000 by omega)) (by decide)
          simp (disch := first | exact sideD | fail) only [go_sem]
          apply useD
          case hl => exact sideX
          case h => exact fsub_ok gz gM (by decide) (by decide)
          case hR => exact fun _ _ _ h => h
          rintro vs σ7 hS e7 l7
          have n_e7 := e7.next
          try simp only [add_next, set_next, fresh_next, low_next, lw_next] at n_e7
          obtain ⟨s9, b9, m9, c9, s10, b10, m10, c10, rfl, -⟩ := id hS
          have k7 : Sym.look cxH σ7 σ1.next = some (.row [.bool s1, .slice b1 m1 c1, .bool s2, .slice b2 m2 c2] 37) := (((e5.trans e6).trans e7).look hn4).trans k4
          have hS2 := isFrac_set (cs' := [.bool s9, .slice b9 m9 c9, .bool s10, .slice b10 m10 c10]) (e' := 37) hS k7 rfl rfl
          have hsz2 := rsz_sub hsz szm
          rw [← hrb] at hS2 hsz2
          simp (disch := first | exact sideD | fail) only [go_sem, g1, g3, g6, g7, g32, g33, g34, k7, st_37, wi_succ]
          exact ⟨p.C.length - (j + 1), by omega, j + 1, rfl, by omega, trivial, trivial, trivial, trivial, trivial, trivial, rfl, (E4.trans ((e5.trans e6).trans e7)).set _ (Nat.le_refl _), by have := e5.next; have := e6.next; have := e7.next; first | omega | (rw [set_next]; omega), rsz_le hsz2 (by omega), _, _, _, _, _, _, _, _, rfl, hS2⟩
        · have a1 := eq_false hn0
          have hn00 : n = 0 := by omega
          have hrb2 : redB p l zA (j + 1) = redB p l zA j := by rw [hrb, hn00, show (((0 : Nat) : Int) : Rat) * u.q = 0 from Rat.zero_mul _, Rat.sub_eq_add_neg, show -(0 : Rat) = 0 from rfl, Rat.add_zero]
          simp (disch := first | exact sideD | fail) only [go_sem, g1, g3, g6, g7, g32, g33, g34, a1, wi_succ]
          exact ⟨p.C.length - (j + 1), by omega, j + 1, rfl, by omega, trivial, trivial, trivial, trivial, trivial, trivial, rfl, E4, hn4, by rw [hrb2]; exact rsz_le hsz (by omega), s1, b1, m1, c1, s2, b2, m2, c2, k4, by rw [hrb2]; exact hz4⟩
    · have e : ((i : Int) < (l.length : Int)) = True := eq_true (by omega)
      have hil : i < l.length := by omega
      obtain ⟨f, hf⟩ : ∃ f, l[i]? = some f := ⟨_, List.getElem?_eq_getElem hil⟩
      have hv := ints_get hf
      obtain ⟨hf0, hf1⟩ := hr.fl f (List.mem_of_getElem? hf)
      obtain ⟨fn, rfl⟩ : ∃ k : Nat, f = (k : Int) := ⟨f.toNat, by omega⟩
      have hfn : fn < p.F.length := by omega
      obtain ⟨u, hu⟩ : ∃ x, p.F[fn]? = some x := ⟨_, List.getElem?_eq_getElem hfn⟩
      obtain ⟨_, _, _, eq, dF, -, okF⟩ := id hp.F
      injection eq with q1 q2 q3
      subst q1
      subst q2
      subst q3
      have t0 : (p.F.flatMap encF)[fn * 4]? = some (.bool u.s1) := getElem?_flatMap encF_len p.F fn 0 (by omega) u hu
      have t1 : (p.F.flatMap encF)[fn * 4 + 1]? = some (.slice u.b1 u.n1 u.c1) := getElem?_flatMap encF_len p.F fn 1 (by omega) u hu
      have t2 : (p.F.flatMap encF)[fn * 4 + 2]? = some (.bool u.s2) := getElem?_flatMap encF_len p.F fn 2 (by omega) u hu
      have t3 : (p.F.flatMap encF)[fn * 4 + 3]? = some (.slice u.b2 u.n2 u.c2) := getElem?_flatMap encF_len p.F fn 3 (by omega) u hu
      have oku := okF u (List.mem_of_getElem? hu)
      have hul := hr.lt.F.2 u (List.mem_of_getElem? hu)
      have gu := fv_g oku hul
      have hll := hr.ll
      have gz : GFrac σ' _ _ 15000 := isFrac_g hz (rsz_le hsz (by omega)) (by omega)
      have gu2 : GFrac σ' (.agg #[.bool u.s1, .slice u.b1 u.n1 u.c1, .bool u.s2, .slice u.b2 u.n2 u.c2]) u.q 15000 := gFrac_le gu (by omega)
      have hfq : fq p (fn : Int) = u.q := by unfold fq; rw [Int.toNat_natCast, hu]
      simp (disch := first | exact sideD | fail) only [go_sem, g1, g3, g6, g7, g17, g18, g19, e, kb, k2, fa_26_0, lo_22_0, ia_42 dw hil, le_3 dw hv, ia_22 dF hfn, le_37 dF t0 t1 t2 t3, lo_37]
      apply useD
      case hl => exact sideX
      case h => exact fsub_ok gz gu2 (by omega) (by omega)
      case hR => exact fun _ _ _ h => h
      rintro vs σ3 hs e3 l4
      have n_e3 := e3.next
      try simp only [add_next, set_next, fresh_next, low_next, lw_next] at n_e3
      obtain ⟨s3, b3, m3, c3, s4, b4, m4, c4, rfl, -⟩ := id hs
      have k3 : Sym.look cxH σ3 σ1.next = some (.row [.bool s1, .slice b1 m1 c1, .bool s2, .slice b2 m2 c2] 37) := (e3.look hn).trans k2
      have hs2 := isFrac_set (cs' := [.bool s3, .slice b3 m3 c3, .bool s4, .slice b4 m4 c4]) (e' := 37) hs k3 rfl rfl
      have hsz2 := rsz_sub hsz (gFrac_rsz gu (by omega))
      have hred2 : redA p (z0 : Rat) (l.take i) - u.q = redA p (z0 : Rat) (l.take (i + 1)) := by rw [take_snoc hf, redA_snoc, hfq]
      rw [hred2] at hs2 hsz2
      simp (disch := first | exact sideD | fail) only [go_sem, g1, g3, g6, g7, g17, g18, g19, k3, st_37, wi_succ]
      exact ⟨l.length - (i + 1), by omega, i + 1, rfl, by omega, trivial, trivial, trivial, trivial, trivial, trivial, rfl, (E.trans e3).set _ (Nat.le_refl _), by have := e3.next; first | omega | (rw [set_next]; omega), rsz_le hsz2 (by omega), _, _, _, _, _, _, _, _, rfl, hs2⟩
  have hq0 : p.r = true → redQ p l a = redB p l (redA p ((0 : Int) : Rat) l) p.C.length := fun h => by unfold redQ; rw [if_pos h]; rfl
  have hq1 : p.r = false → redQ p l a = redB p l (redA p (a : Rat) l) p.C.length := fun h => by unfold redQ; rw [if_neg (by simp [h])]
  cases hpr : p.r with
  | true =>
    simp (disch := first | exact sideD | fail) only [go_sem]
    exact rest _ 0 ⟨by decide, by decide⟩ (hq0 hpr) (by simp (disch := first | exact sideD | fail) only [go_sem]) (by simp (disch := first | exact sideD | fail) only [go_sem]) (by simp (disch := first | exact sideD | fail) only [go_sem]) (by simp (disch := first | exact sideD | fail) only [go_sem])
  | false =>
    simp (disch := first | exact sideD | fail) only [go_sem]
    exact rest _ a ha (hq1 hpr) (by simp (disch := first | exact sideD | fail) only [go_sem]) (by simp (disch := first | exact sideD | fail) only [go_sem]) (by simp (disch := first | exact sideD | fail) only [go_sem]) (by simp (disch := first | exact sideD | fail) only [go_sem])
end
section
theorem li_set {σ : St} {v : Value} {l : List Int} (h : Li σ v l) {i : Nat} {cs cs' : List Value} {e e' : TypeId} (hc : Sym.look cxH σ i = some (.row cs e)) (hn : cs.all noInt = true) (hlen : cs'.length = cs.length) : Li (σ.set i (.row cs' e')) v l := by
  obtain ⟨b, n, c, rfl, h, rfl⟩ := h
  refine ⟨b, _, c, rfl, ⟨h.len, h.cap, h.nil, fun a ha => ?_⟩, rfl⟩
  obtain ⟨h2, k⟩ := h.at' a ha
  refine ⟨h2, fun hn0 => ?_⟩
  obtain ⟨h1, o, h3, h4, h5⟩ := k hn0
  by_cases hi : a.block = i
  · subst hi
    rw [show lookW cxH σ.vw a.block = _ from hc] at h3
    injection h3 with h3
    subst h3
    have hl : l = [] := by
      cases l with
      | nil => rfl
      | cons x r =>
        have hm : Value.int .i64 x ∈ (SObj.row cs e).cells := List.mem_of_mem_drop (List.mem_of_mem_take (by rw [h5]; exact List.mem_cons_self))
        have := List.all_eq_true.1 hn _ hm
        cases this
    subst hl
    exact absurd hn0 (Nat.lt_irrefl 0)
  · exact ⟨h1, o, (look_set_ne hi).trans h3, h4, h5⟩
end
end
end Go.Proofs.YtfdflggfffajaaaGreatDoor
