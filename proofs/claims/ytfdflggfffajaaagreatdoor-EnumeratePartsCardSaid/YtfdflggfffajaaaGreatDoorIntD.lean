/- Integers, fourth part: exact division and the division of the reference. -/
import Derived.Test.YtfdflggfffajaaaGreatDoorIntC
set_option linter.unusedVariables false
set_option linter.unusedSimpArgs false
set_option linter.unusedSectionVars false
namespace Go.Proofs.YtfdflggfffajaaaGreatDoor
open Go Go.Num Go.Proofs
open Go.Sym hiding val
noncomputable section
attribute [local congr] blk_congr Wpick_congr Wgd_congr Wgd'_congr Wcond_congr Wbin_congr Wun_congr Wconv_congr Wext_congr Wfa_congr Wfd_congr Wia_congr Wld_congr Wlen_congr Wst_congr Wbox_congr WldO_congr WstO_congr Wmk_congr Wsl_congr Wap_congr Wbs_congr Wbd_congr Wfn_congr C_congr
set_option maxHeartbeats 2000000
section
theorem sv_div {a b : Bool} {m n : Nat} (hn : n ≠ 0) (h : m % n = 0) : sv a m / sv b n = sv (a != b) (m / n) := by
  obtain ⟨q, rfl⟩ := Nat.dvd_of_mod_eq_zero h
  have h0 : sv b n ≠ 0 := by cases b <;> simp [sv] <;> omega
  have e : sv a (n * q) = sv b n * sv (a != b) q := by
    cases a <;> cases b <;> simp [sv, Int.mul_neg, Int.neg_mul, Int.neg_neg]
  rw [e, Int.mul_ediv_cancel_left _ h0, Nat.mul_div_cancel_left _ (Nat.pos_of_ne_zero hn)]
theorem sv_zero {b : Bool} : sv b 0 = 0 := by cases b <;> rfl
theorem two_put {σ0 σ : St} {p p' : Nat} {v w u : Value} {x y : Int} (h : IsInt σ v x) (h2 : IsInt σ w y) (hc : Sym.look cxH σ p = some (.row [.bool false, .slice none 0 0] 35)) (hc2 : Sym.look cxH σ p' = some (.row [.bool false, .slice none 0 0] 35)) (hpp : p ≠ p')
    (e : Ext' σ0.fresh σ) (hp : σ0.next ≤ p) (hp' : σ0.next ≤ p') :
    ∃ b n c b' n' c' σ', v = .agg #[.bool (decide (x < 0)), .slice b n c] ∧ w = .agg #[.bool (decide (y < 0)), .slice b' n' c'] ∧
      σ' = (σ.set p (.row [.bool (decide (x < 0)), .slice b n c] 35)).set p' (.row [.bool (decide (y < 0)), .slice b' n' c'] 35) ∧
      Sym.look cxH σ' p = some (.row [.bool (decide (x < 0)), .slice b n c] 35) ∧ Sym.look cxH σ' p' = some (.row [.bool (decide (y < 0)), .slice b' n' c'] 35) ∧
      IsInt σ' v x ∧ IsInt σ' w y ∧ Ext' σ0.fresh σ' := by
  obtain ⟨b, n, c, rfl, d⟩ := h
  obtain ⟨b', n', c', rfl, d'⟩ := h2
  have hc3 : Sym.look cxH (σ.set p (.row [.bool (decide (x < 0)), .slice b n c] 35)) p' = some (.row [.bool false, .slice none 0 0] 35) := by rw [look_set_ne (Ne.symm hpp), hc2]
  have k1 : ∀ {v : Value} {z : Int}, IsInt σ v z → IsInt ((σ.set p (.row [.bool (decide (x < 0)), .slice b n c] 35)).set p' (.row [.bool (decide (y < 0)), .slice b' n' c'] 35)) v z := fun h =>
    isInt_set (cs' := [.bool (decide (y < 0)), .slice b' n' c']) (e' := 35) (isInt_set (cs' := [.bool (decide (x < 0)), .slice b n c]) (e' := 35) h hc rfl rfl) hc3 rfl rfl
  refine ⟨b, n, c, b', n', c', _, rfl, rfl, rfl, ?_, look_set rfl, k1 ⟨b, n, c, rfl, d⟩, k1 ⟨b', n', c', rfl, d'⟩, (e.set _ hp).set _ hp'⟩
  rw [look_set_ne hpp, look_set rfl]
theorem isInt_back' {σ0 σ : St} {v u : Value} {z : Int} (h : IsInt σ u z) (hv : plain v = true → plain u = true) : IsInt (back σ0 v σ) u z := by
  obtain ⟨b, n, c, rfl, h⟩ := h
  refine ⟨b, n, c, rfl, dg_back h fun hp => ?_⟩
  have : ((true && ((b.isNone && decide (c < capBase)) && true))) = true := hv hp
  simp only [Bool.true_and, Bool.and_true, Bool.and_eq_true, Option.isNone_iff_eq_none] at this
  exact this.1
theorem plain_t3 {a b c : Value} (h : plain (.tuple #[a, b, c]) = true) : plain a = true ∧ plain b = true := by
  have : (plain a && (plain b && (plain c && true))) = true := h
  simp only [Bool.and_eq_true] at this
  exact ⟨this.1, this.2.1⟩
theorem divMod_ok {σ : St} {v w : Value} {x y : Int} (h : GInt σ v x) (h2 : GInt σ w y) (hy : y ≠ 0) (hd : y ∣ x) : C cxH 149 [v, w] σ fun v σ' => (∃ q r, v = .tuple #[q, r, .int .i64 0] ∧ IsInt σ' q (x / y) ∧ IsInt σ' r 0) ∧ Ext' σ σ' := by
  have hg2 := h2
  obtain ⟨na, ba, ma, ca, la, rfl, ha, hna, rfl⟩ := h
  obtain ⟨nb, bb, mb, cb, lb, rfl, hb, hnb, rfl⟩ := h2
  have hla := digits_len_le ha.lt
  have hlb := digits_len_le hb.lt
  have hl1 := ha.len
  have hl2 := hb.len
  have hmod : val la % val lb = 0 := by
    have := Int.natAbs_dvd_natAbs.2 hd
    rw [sval_natAbs, sval_natAbs] at this
    exact Nat.mod_eq_zero_of_dvd this
  have hb0 : val lb ≠ 0 := fun e => hy (by rw [sval_sv, e, sv_zero])
  have hsign : ((sval nb lb).sign = 0) = False := eq_false (fun e => hy (Int.sign_eq_zero_iff_zero.1 e))
  rw [sval_sv, sval_sv, sv_div hb0 hmod]
  refine C_in (N := 50) (rs := [.cell 4 35, .cell 5 35, .tmp 6]) fn_149 (by rfl) (by rfl) (by rfl) (by rfl) (by rfl) (by rfl) ?_
  have e0 : Ext' σ.fresh ((((σ.fresh.add (.row [.bool na, .slice ba ma ca] 35)).add (.row [.bool nb, .slice bb mb cb] 35)).add (.row [.bool false, .slice none 0 0] 35)).add (.row [.bool false, .slice none 0 0] 35)) := ((((Ext'.refl _).add _).add _).add _).add _
  have ha' := (ha.ext (Ext'.to_fresh σ)).ext e0
  have hb' := (hb.ext (Ext'.to_fresh σ)).ext e0
  simp (disch := first | exact sideD | fail) only [go_sem, al_35, lo_35]
  apply usep
  case h => exact sign_ok ⟨nb, bb, mb, cb, lb, rfl, hb', hnb, rfl⟩
  rintro _ rfl
  simp (disch := first | exact sideD | fail) only [go_sem, hsign, lo_35]
  apply useD
  case hl => exact sideX
  case h => exact mag_ok ha' (by omega)
  case hR => exact fun _ _ _ h => h
  rintro _ σ1 ⟨m1, rfl, d1⟩ e1 l1
  have n_e1 := e1.next
  try simp only [add_next, set_next, fresh_next, low_next, lw_next] at n_e1
  have hb1 := hb'.ext e1
  have hm1 := d1.len
  simp (disch := first | exact sideD | fail) only [go_sem, e1.look, lo_35]
  apply useD
  case hl => exact sideX
  case h => exact mag_ok hb1 (by omega)
  case hR => exact fun _ _ _ h => h
  rintro _ σ2 ⟨m2, rfl, d2⟩ e2 l2
  have n_e2 := e2.next
  try simp only [add_next, set_next, fresh_next, low_next, lw_next] at n_e2
  have hm2 := d2.len
  have d1' := d1.ext e2
  simp (disch := first | exact sideD | fail) only [go_sem]
  apply useD
  case hl => exact sideX
  case h => exact divide_ok d1' d2 (by omega) (by omega) hb0
  case hR => exact fun _ _ _ h => h
  rintro _ σ3 ⟨aq, mq, cq, lq, ar, mr, cr, lr, rfl, dq, dr, hmq, hmr, hq, hr⟩ e3 l3
  have n_e3 := e3.next
  try simp only [add_next, set_next, fresh_next, low_next, lw_next] at n_e3
  have E := ((e0.trans e1).trans e2).trans e3
  simp (disch := first | exact sideD | fail) only [go_sem, e3.look, e2.look, e1.look, fa_35_0, lo_4_0]
  by_cases hs : na = nb
  · have t1 : (na == nb) = true := by simp [hs]
    have t2 : (na != nb) = false := by simp [hs]
    simp (disch := first | exact sideD | fail) only [go_sem, t1]
    apply useD
    case hl => exact sideX
    case h => exact canonical_ok (neg := false) dq (by omega)
    case hR => exact fun _ _ _ h => h
    rintro vq σ4 hI4 e4 l4
    have n_e4 := e4.next
    try simp only [add_next, set_next, fresh_next, low_next, lw_next] at n_e4
    have dr4 := dr.ext e4
    simp (disch := first | exact sideD | fail) only [go_sem, e4.look, e3.look, e2.look, e1.look, fa_35_0, lo_4_0]
    apply useD
    case hl => exact sideX
    case h => exact canonical_ok (neg := nb) dr4 (by omega)
    case hR => exact fun _ _ _ h => h
    rintro vr σ5 hI5 e5 l5
    have n_e5 := e5.next
    try simp only [add_next, set_next, fresh_next, low_next, lw_next] at n_e5
    have hI4' := isInt_ext hI4 e5
    rw [sval_sv, hq] at hI4'
    rw [sval_sv, hr, hmod, sv_zero] at hI5
    have hc : Sym.look cxH σ5 (σ.next + 2) = some (.row [.bool false, .slice none 0 0] 35) := by simp (disch := first | exact sideD | fail) only [go_sem, e5.look, e4.look, e3.look, e2.look, e1.look]
    have hc2 : Sym.look cxH σ5 (σ.next + 3) = some (.row [.bool false, .slice none 0 0] 35) := by simp (disch := first | exact sideD | fail) only [go_sem, e5.look, e4.look, e3.look, e2.look, e1.look]
    obtain ⟨b6, n6, c6, b7, n7, c7, σ6, rfl, rfl, hσ6, hk1, hk2, hI6, hI7, E6⟩ := two_put (σ0 := σ) (u := .int .i64 0) hI4' hI5 hc hc2 (by omega) ((E.trans e4).trans e5) (by omega) (by omega)
    simp (disch := first | exact sideD | fail) only [go_sem, hc, hc2, st_35]
    rw [← hσ6]
    simp (disch := first | exact sideD | fail) only [go_sem, hk1, hk2, lo_35]
    rw [t2]
    exact ⟨⟨_, _, rfl, isInt_back' hI6 (fun hp => (plain_t3 hp).1), isInt_back' hI7 fun hp => (plain_t3 hp).2⟩, back_ext E6⟩
  · have t1 : (na == nb) = false := by simp [hs]
    have t2 : (na != nb) = true := by simp [hs]
    simp (disch := first | exact sideD | fail) only [go_sem, t1]
    apply useD
    case hl => exact sideX
    case h => exact canonical_ok (neg := true) dq (by omega)
    case hR => exact fun _ _ _ h => h
    rintro vq σ4 hI4 e4 l4
    have n_e4 := e4.next
    try simp only [add_next, set_next, fresh_next, low_next, lw_next] at n_e4
    have dr4 := dr.ext e4
    simp (disch := first | exact sideD | fail) only [go_sem, e4.look, e3.look, e2.look, e1.look, fa_35_0, lo_4_0]
    apply useD
    case hl => exact sideX
    case h => exact canonical_ok (neg := na) dr4 (by omega)
    case hR => exact fun _ _ _ h => h
    rintro vr σ5 hI5 e5 l5
    have n_e5 := e5.next
    try simp only [add_next, set_next, fresh_next, low_next, lw_next] at n_e5
    have hI4' := isInt_ext hI4 e5
    rw [sval_sv, hq] at hI4'
    rw [sval_sv, hr, hmod, sv_zero] at hI5
    have hc : Sym.look cxH σ5 (σ.next + 2) = some (.row [.bool false, .slice none 0 0] 35) := by simp (disch := first | exact sideD | fail) only [go_sem, e5.look, e4.look, e3.look, e2.look, e1.look]
    have hc2 : Sym.look cxH σ5 (σ.next + 3) = some (.row [.bool false, .slice none 0 0] 35) := by simp (disch := first | exact sideD | fail) only [go_sem, e5.look, e4.look, e3.look, e2.look, e1.look]
    obtain ⟨b6, n6, c6, b7, n7, c7, σ6, rfl, rfl, hσ6, hk1, hk2, hI6, hI7, E6⟩ := two_put (σ0 := σ) (u := .int .i64 0) hI4' hI5 hc hc2 (by omega) ((E.trans e4).trans e5) (by omega) (by omega)
    have l6 := E6.fresh_le
    simp (disch := first | exact sideD | fail) only [go_sem, hc, hc2, st_35]
    rw [← hσ6]
    simp (disch := first | exact sideD | fail) only [go_sem, hk2, lo_35]
    apply usep
    case h => exact sign_ok (isInt_g hI7 sz_zero)
    rintro _ rfl
    have hz : ((0 : Int).sign = 0) = True := eq_true rfl
    simp (disch := first | exact sideX | fail) only [go_sem, hz]
    rw [Wc_drawF (by kernel_rfl)]
    have v1 : Sym.loadVar cxH σ6 35 ⟨σ.next + 2, 0, none⟩ = some (.agg #[.bool (decide (sv true (val la / val lb) < 0)), .slice b6 n6 c6]) := loadVar_eq.2 ⟨_, hk1, by unfold loadO; rw [ty_35]; rfl⟩
    have v2 : Sym.loadVar cxH σ6 35 ⟨σ.next + 3, 0, none⟩ = some (.agg #[.bool (decide ((0 : Int) < 0)), .slice b7 n7 c7]) := loadVar_eq.2 ⟨_, hk2, by unfold loadO; rw [ty_35]; rfl⟩
    have hn : σ.next + 3 < σ6.next := by
      have := E6.next
      rw [hσ6, set_next, set_next]
      omega
    refine Wd_ld (p := σ.next + 2) (off := 0) sideX (by simp (disch := first | exact sideD | fail) only [go_sem]) v1 fits_nil' ?_
    refine Wd_ld (p := σ.next + 3) (off := 0) sideX (by simp (disch := first | exact sideD | fail) only [go_sem]) v2 (fits_rr fits_nil') ?_
    refine Wd_st (p := σ.next + 2) (off := 0) (σ' := σ6.set (σ.next + 2) (.row [.bool (decide (sv true (val la / val lb) < 0)), .slice b6 n6 c6] 35)) sideX (by simp (disch := first | exact sideD | fail) only [go_sem]) (by simp (disch := first | exact sideD | fail) only [go_sem, hk1, st_35]) (fits_wr (by omega) (fits_b (by kernel_rfl) fits_nil')) ?_
    refine Wd_st (p := σ.next + 3) (off := 0) (σ' := (σ6.set (σ.next + 2) (.row [.bool (decide (sv true (val la / val lb) < 0)), .slice b6 n6 c6] 35)).set (σ.next + 3) (.row [.bool (decide ((0 : Int) < 0)), .slice b7 n7 c7] 35)) sideX (by simp (disch := first | exact sideD | fail) only [go_sem]) (by simp (disch := first | exact sideD | fail) only [go_sem, hk2, st_35]) (fits_ww (by omega) (fits_b (by kernel_rfl) (fits_wr (by omega) fits_nil'))) ?_
    refine Wd_as sideX ?_ fits_nil
    rw [Wd_nil]
    have k8 : Sym.look cxH ((σ6.set (σ.next + 2) (.row [.bool (decide (sv true (val la / val lb) < 0)), .slice b6 n6 c6] 35)).set (σ.next + 3) (.row [.bool (decide ((0 : Int) < 0)), .slice b7 n7 c7] 35)) (σ.next + 2) = some (.row [.bool (decide (sv true (val la / val lb) < 0)), .slice b6 n6 c6] 35) := by simp (disch := first | exact sideD | fail) only [go_sem]
    simp (disch := first | exact sideD | fail) only [go_sem, lo_35]
    have hI8 := isInt_set (cs' := [.bool (decide (sv true (val la / val lb) < 0)), .slice b6 n6 c6]) (e' := 35) hI6 hk1 rfl rfl
    have hk2' : Sym.look cxH (σ6.set (σ.next + 2) (.row [.bool (decide (sv true (val la / val lb) < 0)), .slice b6 n6 c6] 35)) (σ.next + 3) = some (.row [.bool (decide ((0 : Int) < 0)), .slice b7 n7 c7] 35) := by simp (disch := first | exact sideD | fail) only [go_sem, hk2]
    have hI9 := isInt_set (cs' := [.bool (decide ((0 : Int) < 0)), .slice b7 n7 c7]) (e' := 35) hI8 hk2' rfl rfl
    rw [t2]
    have hR8 := isInt_set (cs' := [.bool (decide (sv true (val la / val lb) < 0)), .slice b6 n6 c6]) (e' := 35) hI7 hk1 rfl rfl
    have hR9 := isInt_set (cs' := [.bool (decide ((0 : Int) < 0)), .slice b7 n7 c7]) (e' := 35) hR8 hk2' rfl rfl
    exact ⟨⟨_, _, rfl, isInt_back' hI9 (fun hp => (plain_t3 hp).1), isInt_back' hR9 fun hp => (plain_t3 hp).2⟩, back_ext ((E6.set _ (by show σ.next ≤ _; omega)).set _ (by show σ.next ≤ _; omega))⟩
end
section
section
variable {t : TypeId} {ox oy : Operand} {l : IntKind} {a b s m : Nat} {K : Value → Prop}
theorem shr32_1 : Wbin cxH .shr t ox oy (.int .u32 (m : Int)) (.int l 1) K = K (.int .u32 ((m / 2 : Nat) : Int)) := by
  rw [Wbin_shr (by decide)]
  have : (m : Int).fdiv (2 ^ min (Int.toNat 1) IntKind.u32.bits) = ((m / 2 : Nat) : Int) := by
    show (m : Int).fdiv ((2 : Int) ^ 1) = _
    rw [Int.fdiv_eq_ediv_of_nonneg _ (by decide)]
    rfl
  rw [this]
theorem quo_32 : Wbin cxH .quo t ox oy (.int .i64 (a : Int)) (.int .i64 32) K = K (.int .i64 (IntKind.i64.wrap ((a / 32 : Nat) : Int))) := by
  rw [Wbin_quo (by decide)]
  rfl
theorem rem_32 : Wbin cxH .rem t ox oy (.int .i64 (a : Int)) (.int .i64 32) K = K (.int .i64 ((a % 32 : Nat) : Int)) := by
  rw [Wbin_rem (by decide)]
  rfl
theorem shl_one (h : s < 32) : Wbin cxH .shl t ox oy (.int .u32 1) (.int l (s : Int)) K = K (.int .u32 ((2 ^ s : Nat) : Int)) := by
  rw [Wbin_shl (by omega)]
  have : (1 : Int) * 2 ^ min (Int.toNat (s : Int)) IntKind.u32.bits = ((2 ^ s : Nat) : Int) := by
    rw [Int.toNat_natCast, show min s IntKind.u32.bits = s from Nat.min_eq_left (Nat.le_of_lt h), Int.one_mul, Int.natCast_pow]
    rfl
  have h2 : 2 ^ s < 4294967296 := Nat.lt_of_le_of_lt (pow_le32 h) (by decide)
  rw [this, wu32_nat h2]
theorem shl_31 : Wbin cxH .shl t ox oy (.int .u64 (a : Int)) (.int l 31) K = K (.int .u64 ((a * 2147483648 % 18446744073709551616 : Nat) : Int)) := by
  have := shl_var (t := t) (ox := ox) (oy := oy) (l := l) (a := a) (s := 31) (K := K) (by decide)
  exact this
end
theorem bitLen_ok {σ : St} {b : Option Addr} {n c : Nat} {l : List Nat} (h : Dg cxH σ b n c l) (hn : n ≤ 400000) :
    C cxH 198 [.slice b n c] σ fun v σ' => (∃ k : Nat, v = .int .i64 (k : Int) ∧ Bl (val l) k ∧ k ≤ 32 * n) ∧ σ' = σ := by
  have hdl := digits_len_le h.lt
  have hl := h.len
  refine C_in (N := 27) (rs := [.tmp 2]) fn_198 (by rfl) (by rfl) (by rfl) (by rfl) (by rfl) (by rfl) ?_
  simp (disch := first | exact sideD | fail) only [go_sem]
  apply use
  case hl => exact sideX
  case h => exact trim_ok' (h.ext (Ext'.to_fresh σ)) (by omega)
  rintro _ σ1 ⟨m, rfl, d1⟩ e1 l1
  have n_e1 := e1.next
  try simp only [add_next, set_next, fresh_next, low_next, lw_next] at n_e1
  obtain ⟨x, hx⟩ : ∃ x, x = val l := ⟨_, rfl⟩
  rw [← hx] at d1 hdl ⊢
  have hm := d1.len
  simp (disch := first | exact sideD | fail) only [go_sem]
  by_cases h0 : x = 0
  · subst h0
    rw [digits_zero] at hm
    have e : ((m : Int) = 0) = True := eq_true (by simp at hm; omega)
    simp (disch := first | exact sideD | fail) only [go_sem, e]
    exact ⟨⟨0, rfl, ⟨by decide, fun k => absurd rfl k⟩, Nat.zero_le _⟩, back_plain e1 rfl⟩
  · have hm1 : 1 ≤ m := by rw [hm, digits_pos h0, List.length_cons]; omega
    obtain ⟨N, rfl⟩ : ∃ N, m = N + 1 := ⟨m - 1, by omega⟩
    have e : (((N + 1 : Nat) : Int) = 0) = False := eq_false (by omega)
    have w1 : IntKind.i64.wrap (((N + 1 : Nat) : Int) - 1) = (N : Int) := wr64n (by omega) (by omega)
    have w2 : IntKind.i64.wrap (32 * (N : Int)) = ((32 * N : Nat) : Int) := wr64n (by omega) (by omega)
    simp (disch := first | exact sideD | fail) only [go_sem, e, w1, w2, ia_33 d1, ld_136' d1]
    obtain ⟨t, ht⟩ : ∃ t, t = (digits x).getD N 0 := ⟨_, rfl⟩
    rw [← ht]
    have htB : t < 4294967296 := by rw [ht]; exact lt_getD (digits_lt x)
    have htop : x / B ^ N = t := by
      have := val_drop_div (digits x) N (digits_lt x) (by omega)
      rw [val_digits, val_drop_cons (by omega), List.drop_of_length_le (by omega), val_nil, Nat.mul_zero, Nat.add_zero, ← ht] at this
      exact this.symm
    have ht0 : t ≠ 0 := by
      intro e
      have := digits_ge hm (Nat.succ_pos _)
      rw [Nat.add_sub_cancel] at this
      have h3 : 0 < x / B ^ N := Nat.div_pos this (pow_pos N)
      omega
    refine Wloop_inv (fun z g σ' => ∃ j : Nat, z = t / 2 ^ j ∧ g 3 = .int .i64 ((32 * N + j : Nat) : Int) ∧ g 4 = .int .u32 ((t / 2 ^ j : Nat) : Int) ∧ σ' = σ1 ∧ (j = 0 ∨ t / 2 ^ (j - 1) ≠ 0)) t (by rfl)
      ⟨0, by simp, by simp (disch := first | exact sideD | fail) only [go_sem]; rfl, by simp (disch := first | exact sideD | fail) only [go_sem]; simp, rfl, .inl rfl⟩ ?_
    rintro z g _ ⟨j, rfl, g3, g4, rfl, hj⟩
    have hj32 : j ≤ 32 := by
      rcases hj with rfl | hj
      · omega
      · rcases Nat.lt_or_ge 32 j with h3 | h3
        · exfalso
          apply hj
          apply Nat.div_eq_of_lt
          exact Nat.lt_of_lt_of_le htB (Nat.pow_le_pow_right (n := 2) (by decide) (show 32 ≤ j - 1 by omega))
        · exact h3
    by_cases hz : t / 2 ^ j = 0
    · have e2 : ((0 : Int) < ((t / 2 ^ j : Nat) : Int)) = False := eq_false (by rw [hz]; decide)
      simp (disch := first | exact sideD | fail) only [go_sem, g3, g4, e2]
      have hb : Bl t j := by
        refine ⟨?_, fun _ => ?_⟩
        · have hp : 0 < 2 ^ j := Nat.pow_pos (by decide)
          rcases Nat.lt_or_ge t (2 ^ j) with h3 | h3
          · exact h3
          · have := Nat.div_pos h3 hp
            omega
        · rcases hj with rfl | hj
          · simp at hz
            exact absurd hz ht0
          · have h4 : 2 ^ (j - 1) ≤ t := by
              rcases Nat.lt_or_ge t (2 ^ (j - 1)) with h3 | h3
              · exact absurd (Nat.div_eq_of_lt h3) hj
              · exact h3
            have h5 : j ≠ 0 := fun e => by
              subst e
              simp at hz
              exact ht0 hz
            have h6 : 2 ^ j = 2 * 2 ^ (j - 1) := by
              obtain ⟨i, rfl⟩ : ∃ i, j = i + 1 := ⟨j - 1, by omega⟩
              rw [Nat.pow_succ', Nat.add_sub_cancel]
            omega
      have hB : B ^ N = 2 ^ (32 * N) := by
        rw [Nat.pow_mul]
      refine ⟨⟨32 * N + j, rfl, ?_, by omega⟩, back_plain e1 rfl⟩
      rw [hB] at htop
      exact Bl.shift (by rw [htop]; exact hb) (by rw [htop]; exact ht0)
    · have e2 : ((0 : Int) < ((t / 2 ^ j : Nat) : Int)) = True := eq_true (by
        have h3 := Nat.pos_of_ne_zero hz
        generalize t / 2 ^ j = y at h3 ⊢
        omega)
      simp (disch := first | exact sideD | fail) only [go_sem, g3, g4, e2, wi_succ, shr32_1]
      have hd : t / 2 ^ j / 2 = t / 2 ^ (j + 1) := by rw [Nat.div_div_eq_div_mul, ← Nat.pow_succ]
      refine ⟨t / 2 ^ (j + 1), ?_, j + 1, rfl, ?_, ?_, trivial, .inr hz⟩
      · rw [← hd]
        exact Nat.div_lt_self (Nat.pos_of_ne_zero hz) (by decide)
      · rfl
      · rw [hd]
theorem half_word {x z : Nat} (hx : x < B) (hz : z < B) : x / 2 ||| z * 2147483648 % 18446744073709551616 % 4294967296 = (x + z * B) / 2 ^ 1 % B := by
  have e1 : z * 2147483648 % 18446744073709551616 % 4294967296 = 2 ^ 31 * (z % 2) := by
    simp only [B] at hz
    omega
  have h2 : x / 2 < 2 ^ 31 := by
    simp only [B] at hx
    omega
  rw [e1, Nat.or_comm, or_mul h2]
  simp only [B] at *
  omega
theorem half_ok {σ : St} {b : Option Addr} {n c : Nat} {l : List Nat} (h : Dg cxH σ b n c l) (hn : n ≤ 1000000) :
    C cxH 200 [.slice b n c] σ fun v σ' => (∃ m k, v = .slice (some ⟨σ.next, 0, none⟩) m k ∧ Dg cxH σ' (some ⟨σ.next, 0, none⟩) m k (digits (val l / 2))) ∧ Ext' σ σ' := by
  have hl := h.len
  refine C_in (N := 31) (rs := [.tmp 2]) fn_200 (by rfl) (by rfl) (by rfl) (by rfl) (by rfl) (by rfl) ?_
  simp (disch := first | exact sideD | fail) only [go_sem, mk_33]
  refine Wloop_inv (fun m g σ' => ∃ (i : Nat) (o : List Nat), m = n - i ∧ i ≤ n ∧ g 0 = .slice b n c ∧ g 3 = .slice (some ⟨σ.next, 0, none⟩) n n ∧ g 4 = .int .i64 (i : Int) ∧ Own σ' σ.next n n none o ∧ Ext' σ.fresh σ' ∧ val (o.take i) + B ^ i * (val (l.drop i) / 2 ^ 1) = val l / 2 ^ 1) n (by rfl)
    ⟨0, List.replicate n 0, rfl, Nat.zero_le _, by simp (disch := first | exact sideD | fail) only [go_sem], by simp (disch := first | exact sideD | fail) only [go_sem], by simp (disch := first | exact sideD | fail) only [go_sem]; rfl, own_new (σ := σ.fresh) (by simp) lt_rep (by omega), (Ext'.refl _).add _, by simp [val]⟩ ?_
  rintro m g σ' ⟨i, o, rfl, hi, g0, g3, g4, hO, E, hval⟩
  have d1 := (h.ext (Ext'.to_fresh σ)).ext E
  have hlow := E.fresh_le
  have ho := hO.len
  by_cases hin : i = n
  · subst hin
    have e : ((i : Int) < (i : Int)) = False := eq_false (by omega)
    simp (disch := first | exact sideD | fail) only [go_sem, g0, g3, g4, e]
    rw [List.take_of_length_le (by omega), List.drop_of_length_le (by omega), val_nil, Nat.zero_div, Nat.mul_zero, Nat.add_zero] at hval
    apply use
    case hl => exact sideX
    case h => exact trim_ok' hO.dg (by omega)
    rintro _ σ1 ⟨m, rfl, d4⟩ e1 l1
    have n_e1 := e1.next
    try simp only [add_next, set_next, fresh_next, low_next, lw_next] at n_e1
    simp (disch := first | exact sideD | fail) only [go_sem]
    rw [hval] at d4
    exact ⟨⟨_, _, rfl, dg_back2 d4 rfl⟩, back_ext (E.trans e1)⟩
  · have e : ((i : Int) < (n : Int)) = True := eq_true (by omega)
    have hx := getD_some (l := o) (i := i) (by omega)
    have hxB : l.getD i 0 < B := lt_getD h.lt
    have hzB : l.getD (i + 1) 0 < B := lt_getD h.lt
    have hw := half_word hxB hzB
    have st := unshift_step (s := 1) (by decide) h.lt (by omega) (by omega) hval
    have hq : (l.getD i 0 + l.getD (i + 1) 0 * B) / 2 ^ 1 % B < B := Nat.mod_lt _ B_pos
    have hr : l.getD (i + 1) 0 * 2147483648 % 18446744073709551616 % 4294967296 < 4294967296 := Nat.mod_lt _ (by decide)
    have hx2 : l.getD i 0 / 2 < 4294967296 := by simp only [B] at hxB; omega
    simp (disch := first | exact sideD | fail) only [go_sem, g0, g3, g4, e, ia_33 d1, ld_136' d1, shr32_1, wi_succ]
    apply usepD
    case hl => exact sideX
    case h => exact rDigit_ok d1
    rintro _ rfl
    simp (disch := first | exact sideD | fail) only [go_sem, g0, g3, g4, shl_31, wr32, or_u32, hw, ia_own, hO.at, st_ow, wi_succ]
    exact ⟨n - (i + 1), by omega, i + 1, _, rfl, by omega, trivial, trivial, rfl, hO.set hq, E.set _ (Nat.le_refl _), st⟩
theorem rshift_step {o l : List Nat} {i j q s : Nat} (hj : j = i + q) (hi : j + 1 < o.length) (h : val (o.take j) + B ^ j * o.getD j 0 = B ^ q * (val (l.take i) * 2 ^ s)) :
    val (((o.set j (o.getD j 0 + (l.getD i 0 * 2 ^ s) % B)).set (j + 1) (l.getD i 0 * 2 ^ s / B)).take (j + 1)) + B ^ (j + 1) * (l.getD i 0 * 2 ^ s / B) = B ^ q * (val (l.take (i + 1)) * 2 ^ s) := by
  rw [List.take_set_of_le (Nat.le_refl _), val_take_set (by omega), val_take_getD, Nat.add_mul, Nat.mul_add (B ^ q), ← h, Nat.mul_add (B ^ j), Nat.pow_succ]
  have h2 : B ^ j * (l.getD i 0 * 2 ^ s % B) + B ^ j * B * (l.getD i 0 * 2 ^ s / B) = B ^ q * (B ^ i * l.getD i 0 * 2 ^ s) := by
    rw [Nat.mul_assoc, ← Nat.mul_add, Nat.mod_add_div, hj, Nat.add_comm i q, Nat.pow_add, Nat.mul_assoc, Nat.mul_assoc]
  omega
theorem rshift_ok {σ : St} {b : Option Addr} {n c k : Nat} {l : List Nat} (h : Dg cxH σ b n c l) (hn : n ≤ 400000) (hk : k ≤ 12800000) :
    C cxH 199 [.slice b n c, .int .i64 (k : Int)] σ fun v σ' => (∃ m z, v = .slice (some ⟨σ.next, 0, none⟩) m z ∧ Dg cxH σ' (some ⟨σ.next, 0, none⟩) m z (digits (val l * 2 ^ k))) ∧ Ext' σ σ' := by
  have hl := h.len
  obtain ⟨q, hq⟩ : ∃ q, q = k / 32 := ⟨_, rfl⟩
  obtain ⟨s, hs⟩ : ∃ s, s = k % 32 := ⟨_, rfl⟩
  have hq4 : q ≤ 400000 := by omega
  have hs32 : s < 32 := by omega
  have hp2 := pow_le32 hs32
  have hkq : 2 ^ k = B ^ q * 2 ^ s := by
    rw [show k = 32 * q + s by omega, Nat.pow_add, Nat.pow_mul]
  have wq : IntKind.i64.wrap ((q : Nat) : Int) = (q : Int) := wi_nat (by omega)
  refine C_in (N := 58) (rs := [.tmp 4]) fn_199 (by rfl) (by rfl) (by rfl) (by rfl) (by rfl) (by rfl) ?_
  simp (disch := first | exact sideD | fail) only [go_sem, quo_32, ← hq, wq, wi_add, wi_succ, mk_33]
  refine Wloop_inv (fun m g σ' => ∃ (i : Nat) (o : List Nat), m = n - i ∧ i ≤ n ∧ g 0 = .slice b n c ∧ g 1 = .int .i64 (k : Int) ∧ g 5 = .slice (some ⟨σ.next, 0, none⟩) (n + q + 1) (n + q + 1) ∧ g 6 = .int .i64 (i : Int) ∧ Own σ' σ.next (n + q + 1) (n + q + 1) none o ∧ Ext' σ.fresh σ' ∧
      (∀ j, i + q < j → o.getD j 0 = 0) ∧ o.getD (i + q) 0 < 2 ^ s ∧ val (o.take (i + q)) + B ^ (i + q) * o.getD (i + q) 0 = B ^ q * (val (l.take i) * 2 ^ s)) n (by rfl)
    ⟨0, List.replicate (n + q + 1) 0, rfl, Nat.zero_le _, by simp (disch := first | exact sideD | fail) only [go_sem], by simp (disch := first | exact sideD | fail) only [go_sem], by simp (disch := first | exact sideD | fail) only [go_sem], by simp (disch := first | exact sideD | fail) only [go_sem]; rfl, own_new (σ := σ.fresh) (by simp) lt_rep (by omega), (Ext'.refl _).add _, fun j _ => getD_rep, by rw [getD_rep]; exact Nat.pow_pos (by decide), by rw [getD_rep, List.take_replicate, val_zeros]; simp [val]⟩ ?_
  rintro m g σ' ⟨i, o, rfl, hi, g0, g1, g5, g6, hO, E, hz, hd, hval⟩
  have d1 := (h.ext (Ext'.to_fresh σ)).ext E
  have hlow := E.fresh_le
  have ho := hO.len
  by_cases hin : i = n
  · subst hin
    have e : ((i : Int) < (i : Int)) = False := eq_false (by omega)
    simp (disch := first | exact sideD | fail) only [go_sem, g0, g1, g5, g6, e]
    have hv : val o = val l * 2 ^ k := by
      have h1 := val_take_getD o (i + q)
      rw [List.take_of_length_le (by omega)] at h1
      rw [h1, hval, List.take_of_length_le (by omega), hkq, Nat.mul_left_comm]
    apply use
    case hl => exact sideX
    case h => exact trim_ok' hO.dg (by omega)
    rintro _ σ1 ⟨m, rfl, d4⟩ e1 l1
    have n_e1 := e1.next
    try simp only [add_next, set_next, fresh_next, low_next, lw_next] at n_e1
    simp (disch := first | exact sideD | fail) only [go_sem]
    rw [hv] at d4
    exact ⟨⟨_, _, rfl, dg_back2 d4 rfl⟩, back_ext (E.trans e1)⟩
  · have e : ((i : Int) < (n : Int)) = True := eq_true (by omega)
    have hxB : l.getD i 0 < B := lt_getD h.lt
    obtain ⟨eo, ho2⟩ := shift_or hs32 hxB hd
    have hhi := shift_hi (s := s) hxB
    have st := rshift_step (l := l) rfl (by omega) hval
    have hx := getD_some (l := o) (i := i + q) (by omega)
    have hxs : l.getD i 0 * 2 ^ s < 18446744073709551616 := by
      have h1 : l.getD i 0 * 2 ^ s ≤ 4294967295 * 2147483648 := Nat.mul_le_mul (by simp only [B] at hxB; omega) hp2
      omega
    have w0 : l.getD i 0 * 2 ^ s % 18446744073709551616 = l.getD i 0 * 2 ^ s := Nat.mod_eq_of_lt hxs
    have hl2 : l.getD i 0 * 2 ^ s % B < B := Nat.mod_lt _ B_pos
    have hdB : o.getD (i + q) 0 < B := Nat.lt_of_lt_of_le hd (by simp only [B]; omega)
    have hhB : l.getD i 0 * 2 ^ s / B < B := Nat.lt_of_lt_of_le hhi (by simp only [B]; omega)
    have w1 : IntKind.u32.wrap ((l.getD i 0 * 2 ^ s / B : Nat) : Int) = ((l.getD i 0 * 2 ^ s / B : Nat) : Int) := wu32_nat hhB
    have hO1 : Own (σ'.set σ.next (ow none (o.set (i + q) (o.getD (i + q) 0 + l.getD i 0 * 2 ^ s % B)))) σ.next (n + q + 1) (n + q + 1) none _ := hO.set ho2
    have hO2 := hO1.set (i := i + q + 1) hhB
    have w2 : IntKind.u64.wrap ((l.getD i 0 : Nat) : Int) = ((l.getD i 0 : Nat) : Int) := wu_nat (by simp only [B] at hxB; omega)
    have w3 : IntKind.u64.wrap ((s : Nat) : Int) = (s : Int) := wu_nat (by omega)
    have hlen1 : (o.set (i + q) (o.getD (i + q) 0 + l.getD i 0 * 2 ^ s % B)).length = n + q + 1 := by rw [List.length_set, ho]
    simp (disch := first | exact sideD | fail) only [go_sem, g0, g1, g5, g6, e, ia_33 d1, ld_136' d1, w2, rem_32, ← hs, w3, shl_var, w0, quo_32, ← hq, wq, wi_add, ia_own, hO.at, lo_ow hx, wr32, or_u32, eo, st_ow, shr32, w1, hO1.at, wi_succ]
    refine ⟨n - (i + 1), by omega, i + 1, _, rfl, by omega, trivial, trivial, trivial, rfl, hO2, (E.set _ (Nat.le_refl _)).set _ (Nat.le_refl _), fun j hj => ?_, ?_, ?_⟩
    · rw [getD_set_ne (by omega), getD_set_ne (by omega)]
      exact hz j (by omega)
    · rw [show i + 1 + q = i + q + 1 by omega, getD_set_self (by omega)]
      exact hhi
    · rw [show i + 1 + q = i + q + 1 by omega, getD_set_self (by omega)]
      exact st
end
section
theorem set_bit {l : List Nat} {i : Nat} (hl : ∀ x ∈ l, x < B) (hi : i / 32 < l.length) (h : val l % 2 ^ (i + 1) = 0) :
    l.getD (i / 32) 0 ||| 2 ^ (i % 32) = l.getD (i / 32) 0 + 2 ^ (i % 32) ∧ l.getD (i / 32) 0 + 2 ^ (i % 32) < B ∧ val (l.set (i / 32) (l.getD (i / 32) 0 + 2 ^ (i % 32))) = val l + 2 ^ i := by
  have hs : i % 32 < 32 := Nat.mod_lt _ (by decide)
  obtain ⟨w, hw⟩ : ∃ w, w = l.getD (i / 32) 0 := ⟨_, rfl⟩
  have hwB : w < B := by rw [hw]; exact lt_getD hl
  have h1 := val_at l (i / 32) _ (getD_some hi)
  rw [← hw] at h1
  have hB : B ^ (i / 32) = 2 ^ (32 * (i / 32)) := by rw [Nat.pow_mul]
  have he : 2 ^ (i + 1) = B ^ (i / 32) * 2 ^ (i % 32 + 1) := by
    rw [hB, ← Nat.pow_add]
    congr 1
    omega
  have h2 : (w + B * val (l.drop (i / 32 + 1))) % 2 ^ (i % 32 + 1) = 0 := by
    have h3 : val l / B ^ (i / 32) = w + B * val (l.drop (i / 32 + 1)) := by
      rw [h1, Nat.add_mul_div_left _ _ (pow_pos _)]
      have := val_lt (lt_take (k := i / 32) hl)
      rw [List.length_take, Nat.min_eq_left (by omega)] at this
      rw [Nat.div_eq_of_lt this, Nat.zero_add]
    rw [he] at h
    obtain ⟨c, hc⟩ := Nat.dvd_of_mod_eq_zero h
    rw [Nat.mul_assoc] at hc
    rw [← h3, hc, Nat.mul_div_cancel_left _ (pow_pos _), Nat.mul_mod_right]
  have hB2 : B = 2 ^ (i % 32 + 1) * 2 ^ (32 - (i % 32 + 1)) := B_pow (by omega)
  have h4 : w % 2 ^ (i % 32 + 1) = 0 := by
    have e : w + B * val (l.drop (i / 32 + 1)) = w + 2 ^ (i % 32 + 1) * (2 ^ (32 - (i % 32 + 1)) * val (l.drop (i / 32 + 1))) := by
      rw [← Nat.mul_assoc, ← hB2]
    rw [e, Nat.add_mul_mod_self_left] at h2
    exact h2
  obtain ⟨c, hc⟩ := Nat.dvd_of_mod_eq_zero h4
  have hlt : 2 ^ (i % 32) < 2 ^ (i % 32 + 1) := by
    rw [Nat.pow_succ]
    have : 0 < 2 ^ (i % 32) := Nat.pow_pos (by decide)
    omega
  rw [← hw]
  refine ⟨by rw [hc, or_mul hlt], ?_, ?_⟩
  · have hc2 : c < 2 ^ (32 - (i % 32 + 1)) := by
      rw [hc, hB2] at hwB
      exact Nat.lt_of_mul_lt_mul_left hwB
    have h5 : 2 ^ (i % 32 + 1) * (c + 1) ≤ 2 ^ (i % 32 + 1) * 2 ^ (32 - (i % 32 + 1)) := Nat.mul_le_mul_left _ hc2
    rw [← hB2, Nat.mul_add, Nat.mul_one] at h5
    omega
  · have h5 := val_set l (i / 32) (w + 2 ^ (i % 32)) _ (getD_some hi)
    rw [← hw, Nat.mul_add] at h5
    have h6 : B ^ (i / 32) * 2 ^ (i % 32) = 2 ^ i := by
      rw [hB, ← Nat.pow_add]
      congr 1
      omega
    omega
theorem pow32 (k : Nat) : B ^ k = 2 ^ (32 * k) := by rw [Nat.pow_mul]
theorem bits_lt {X Y bx by' : Nat} (hx : Bl X bx) (hy : Bl Y by') (hY : Y ≠ 0) (h : by' ≤ bx) : X < Y * 2 ^ (bx - by' + 1) := by
  have h1 := hx.1
  have h2 := hy.2 hY
  have e : 2 ^ bx = 2 ^ (bx - by') * 2 ^ by' := by rw [← Nat.pow_add]; congr 1; omega
  have h3 : 2 ^ (bx - by') * 2 ^ by' ≤ 2 ^ (bx - by') * (2 * Y) := Nat.mul_le_mul_left _ h2
  have e2 : Y * 2 ^ (bx - by' + 1) = 2 ^ (bx - by') * (2 * Y) := by rw [Nat.pow_succ, Nat.mul_comm, Nat.mul_assoc]
  omega
theorem bits_small {X Y bx by' : Nat} (hx : Bl X bx) (hy : Bl Y by') (hY : Y ≠ 0) (h : bx < by') : X < Y := by
  have h1 := hx.1
  have h2 := hy.2 hY
  have e : 2 * 2 ^ bx ≤ 2 ^ by' := by
    rw [← Nat.pow_succ']
    exact Nat.pow_le_pow_right (by decide) h
  omega
theorem bit_step {X Y R Q i : Nat} (hX : X = R + Y * Q) (hR : R < Y * 2 ^ (i + 1)) (hQ : Q % 2 ^ (i + 1) = 0) :
    (Y * 2 ^ i ≤ R → X = R - Y * 2 ^ i + Y * (Q + 2 ^ i) ∧ R - Y * 2 ^ i < Y * 2 ^ i ∧ (Q + 2 ^ i) % 2 ^ i = 0) ∧ Q % 2 ^ i = 0 := by
  have h1 : Q % 2 ^ i = 0 := by
    obtain ⟨c, hc⟩ := Nat.dvd_of_mod_eq_zero hQ
    rw [hc, Nat.pow_succ, Nat.mul_assoc, Nat.mul_mod_right]
  refine ⟨fun h => ⟨?_, ?_, ?_⟩, h1⟩
  · rw [Nat.mul_add]
    omega
  · rw [Nat.pow_succ, ← Nat.mul_assoc] at hR
    omega
  · rw [Nat.add_mod, h1, Nat.mod_self]
    simp
theorem val_lt_pow {l : List Nat} (h : ∀ x ∈ l, x < B) (m : Nat) (hm : l.length ≤ m) : val l < B ^ m := Nat.lt_of_lt_of_le (val_lt h) (Nat.pow_le_pow_right B_pos hm)
theorem shift_lt {Y n0 m k : Nat} (hY : Y < B ^ m) (hn : n0 ≤ 32 * m) (hk : k = m + m) : Y * 2 ^ n0 < B ^ k := by
  have h3 : 2 ^ n0 ≤ 2 ^ (32 * m) := Nat.pow_le_pow_right (by decide) hn
  rw [← pow32] at h3
  rw [hk, Nat.pow_add]
  exact Nat.lt_of_lt_of_le (Nat.mul_lt_mul_of_pos_right hY (Nat.pow_pos (by decide))) (Nat.mul_le_mul_left _ h3)
theorem rdiv_ok {σ : St} {b b' : Option Addr} {n c n' c' : Nat} {la lb : List Nat} (h : Dg cxH σ b n c la) (h2 : Dg cxH σ b' n' c' lb) (hn : n ≤ 100000) (hn' : n' ≤ 100000) (hy : val lb ≠ 0) :
    C cxH 154 [.slice b n c, .slice b' n' c'] σ fun v σ' => (∃ aq mq cq ar mr cr, v = .tuple #[.slice aq mq cq, .slice ar mr cr] ∧ Dg cxH σ' aq mq cq (digits (val la / val lb)) ∧ Dg cxH σ' ar mr cr (digits (val la % val lb))) ∧ Ext' σ σ' := by
  have hl := h.len
  have hl2 := h2.len
  have hXB := val_lt_pow h.lt 100000 (by omega)
  have hYB := val_lt_pow h2.lt 100000 (by omega)
  obtain ⟨X, hX⟩ : ∃ X, X = val la := ⟨_, rfl⟩
  obtain ⟨Y, hY⟩ : ∃ Y, Y = val lb := ⟨_, rfl⟩
  rw [← hX] at hXB ⊢
  rw [← hY] at hYB hy ⊢
  have hlx2 := digits_length hXB
  refine C_in (N := 60) (rs := [.tmp 4, .tmp 5]) fn_154 (by rfl) (by rfl) (by rfl) (by rfl) (by rfl) (by rfl) ?_
  simp (disch := first | exact sideD | fail) only [go_sem]
  apply use
  case hl => exact sideX
  case h => exact trim_ok' (h.ext (Ext'.to_fresh σ)) (by omega)
  rintro _ σ1 ⟨m, rfl, d1⟩ e1 l1
  have n_e1 := e1.next
  try simp only [add_next, set_next, fresh_next, low_next, lw_next] at n_e1
  rw [← hX] at d1
  have hm := d1.len
  simp (disch := first | exact sideD | fail) only [go_sem]
  refine ap_33 d1 (by omega) fun b1 c1 σ2 d2 e2 => ?_
  have l2 := e2.le l1
  have E := e1.trans e2
  have ha := (h.ext (Ext'.to_fresh σ)).ext E
  have hb := (h2.ext (Ext'.to_fresh σ)).ext E
  simp (disch := first | exact sideD | fail) only [go_sem]
  apply usep
  case h => exact bitLen_ok ha (by omega)
  rintro _ ⟨bx, rfl, hbx, hbx2⟩
  simp (disch := first | exact sideD | fail) only [go_sem]
  apply usep
  case h => exact bitLen_ok hb (by omega)
  rintro _ ⟨by', rfl, hby, hby2⟩
  rw [← hX] at hbx
  rw [← hY] at hby
  by_cases hlt : bx < by'
  · have w1 : IntKind.i64.wrap ((bx : Int) - (by' : Int)) = (bx : Int) - by' := wr64 (by omega) (by omega)
    have e : ((bx : Int) - (by' : Int) < 0) = True := eq_true (by omega)
    have hxy := bits_small hbx hby hy hlt
    simp (disch := first | exact sideD | fail) only [go_sem, w1, e]
    refine ⟨⟨none, 0, 0, b1, m, c1, rfl, ?_, ?_⟩, back_ext E⟩
    · rw [Nat.div_eq_of_lt hxy, digits_zero]
      exact dg_nil _
    · rw [Nat.mod_eq_of_lt hxy]
      exact dg_t2 d2
  · obtain ⟨n0, hn0⟩ : ∃ n0, n0 = bx - by' := ⟨_, rfl⟩
    have w1 : IntKind.i64.wrap ((bx : Int) - (by' : Int)) = (n0 : Int) := wr64n (by omega) (by omega)
    have e : ((n0 : Int) < 0) = False := eq_false (by omega)
    have hn03 : n0 ≤ 3200000 := by omega
    have w2 : IntKind.i64.wrap ((n0 / 32 : Nat) : Int) = ((n0 / 32 : Nat) : Int) := wi_nat (by omega)
    obtain ⟨M, hM⟩ : ∃ M, M = n0 / 32 + 1 := ⟨_, rfl⟩
    simp (disch := first | exact sideD | fail) only [go_sem, w1, e, quo_32, w2, wi_succ, ← hM, mk_33]
    have hOq : Own (σ2.add (.row ((List.replicate M 0).map dig) 136)) σ2.next M M none (List.replicate M 0) := own_new (by simp) lt_rep (by omega)
    have ea : Ext' σ2 (σ2.add (.row ((List.replicate M 0).map dig) 136)) := (Ext'.refl _).add _
    have hb' := hb.ext ea
    apply use
    case hl => exact sideX
    case h => exact rshift_ok hb' (by omega) (by omega)
    rintro _ σ3 ⟨md, cd, rfl, dd⟩ e3 l3
    have n_e3 := e3.next
    try simp only [add_next, set_next, fresh_next, low_next, lw_next] at n_e3
    rw [← hY] at dd
    have hDB := shift_lt (n0 := n0) (k := 200000) hYB (by omega) (by omega)
    have hOq3 := hOq.ext e3
    have dr3 := (d2.ext ea).ext e3
    have E3 := (E.trans ea).trans e3
    have start := bits_lt hbx hby hy (by omega)
    rw [← hn0] at start
    simp (disch := first | exact sideD | fail) only [go_sem]
    refine Wloop_inv (fun j g σ' => ∃ (R D : Nat) (lq : List Nat) (br bd : Option Addr) (nr cr nd cd : Nat), j ≤ n0 + 1 ∧ g 6 = .slice br nr cr ∧ g 8 = .slice (some ⟨σ2.next, 0, none⟩) M M ∧ g 9 = .slice bd nd cd ∧ g 10 = .int .i64 ((j : Int) - 1) ∧
        Dg cxH σ' br nr cr (digits R) ∧ Dg cxH σ' bd nd cd (digits D) ∧ Own σ' σ2.next M M none lq ∧ Ext' σ.fresh σ' ∧ (1 ≤ j → D = Y * 2 ^ (j - 1)) ∧ D < B ^ 200000 ∧ R < B ^ 100000 ∧ R < Y * 2 ^ j ∧ X = R + Y * val lq ∧ val lq % 2 ^ j = 0 ∧ (∀ a, br = some a → a.block ≠ σ2.next) ∧ (∀ a, bd = some a → a.block ≠ σ2.next)) (n0 + 1) (by rfl)
      ⟨X, Y * 2 ^ n0, List.replicate M 0, b1, _, m, c1, md, cd, Nat.le_refl _, by simp (disch := first | exact sideD | fail) only [go_sem], by simp (disch := first | exact sideD | fail) only [go_sem], by simp (disch := first | exact sideD | fail) only [go_sem], by simp (disch := first | exact sideD | fail) only [go_sem]; congr 1; omega, dr3, dd, hOq3, E3, fun _ => by rw [Nat.add_sub_cancel], hDB, hXB, start, by rw [val_zeros, Nat.mul_zero, Nat.add_zero], by rw [val_zeros, Nat.zero_mod], fun a ha => Nat.ne_of_lt (d2.sl.at' a ha).1, fun a ha => by injection ha with ha; subst ha; exact Nat.ne_of_gt (Nat.lt_succ_self _)⟩ ?_
    have hpq : σ.next ≤ σ2.next := E.next
    clear d1 d2 dd hOq hOq3 dr3 E3 E ea e1 e2 e3 l1 l2 l3 n_e1 n_e3 start ha hb hb' w1 w2 e hDB hm
    rintro j g σ' ⟨R, D, lq, br, bd, nr, cr, nd, cd, hj, g6, g8, g9, g10, dr, dd, hOq, E, hD, hDB, hRB, hRY, hXQ, hQ, hnr, hnd⟩
    have hlow := E.fresh_le
    have hlr := dr.len
    have hld := dd.len
    have hlr2 := digits_length hRB
    have hld2 := digits_length hDB
    have hlq := hOq.len
    by_cases hj0 : j = 0
    · subst hj0
      have e3 : (0 ≤ ((0 : Nat) : Int) - 1) = False := eq_false (by omega)
      simp (disch := first | exact sideD | fail) only [go_sem, g6, g8, g9, g10, e3]
      apply use
      case hl => exact sideX
      case h => exact trim_ok' hOq.dg (by omega)
      rintro _ σ5 ⟨m5, rfl, d5⟩ e5 l5
      have n_e5 := e5.next
      try simp only [add_next, set_next, fresh_next, low_next, lw_next] at n_e5
      have dr5 := dr.ext e5
      simp (disch := first | exact sideD | fail) only [go_sem, g6]
      rw [Nat.pow_zero, Nat.mul_one] at hRY
      have q1 : val lq = X / Y := by rw [hXQ, Nat.add_mul_div_left _ _ (Nat.pos_of_ne_zero hy), Nat.div_eq_of_lt hRY, Nat.zero_add]
      have q2 : R = X % Y := by rw [hXQ, Nat.add_mul_mod_self_left, Nat.mod_eq_of_lt hRY]
      rw [q1] at d5
      rw [q2] at dr5
      exact ⟨⟨_, _, _, _, _, _, rfl, dg_t1 d5, dg_t2 dr5⟩, back_ext (E.trans e5)⟩
    · obtain ⟨i, rfl⟩ : ∃ i, j = i + 1 := ⟨j - 1, by omega⟩
      rw [show ((i + 1 : Nat) : Int) - 1 = (i : Int) by omega] at g10
      have e3 : (0 ≤ (i : Int)) = True := eq_true (by omega)
      have e4 : IntKind.i64.wrap ((i : Int) - 1) = (i : Int) - 1 := wr64 (by omega) (by omega)
      have hDi : D = Y * 2 ^ i := by rw [hD (by omega), Nat.add_sub_cancel]
      obtain ⟨bst, hQi⟩ := bit_step hXQ hRY hQ
      have hhalf : D / 2 < B ^ 200000 := Nat.lt_of_le_of_lt (Nat.div_le_self _ _) hDB
      have hnext : 1 ≤ i → D / 2 = Y * 2 ^ (i - 1) := fun h1 => by
        obtain ⟨k, rfl⟩ : ∃ k, i = k + 1 := ⟨i - 1, by omega⟩
        rw [hDi, Nat.pow_succ, ← Nat.mul_assoc, Nat.mul_div_cancel _ (by decide), Nat.add_sub_cancel]
      simp (disch := first | exact sideD | fail) only [go_sem, g6, g8, g9, g10, e3]
      apply usep
      case h => exact compareDigits_ok dr dd (by omega) (by omega)
      rintro _ rfl
      rw [val_digits, val_digits]
      by_cases hle : D ≤ R
      · have e5 : (0 ≤ cmp R D) = True := eq_true (cmp_ge.2 hle)
        obtain ⟨s1, s2, s3⟩ := bst (by rw [← hDi]; exact hle)
        obtain ⟨b1', b2', b3'⟩ := set_bit hOq.dig (by omega) hQ
        have hs32 : i % 32 < 32 := Nat.mod_lt _ (by decide)
        have hp2 := pow_le32 hs32
        have hx := getD_some (l := lq) (i := i / 32) (by omega)
        have hwB : lq.getD (i / 32) 0 < 4294967296 := lt_getD hOq.dig
        have w3 : IntKind.i64.wrap ((i / 32 : Nat) : Int) = ((i / 32 : Nat) : Int) := wi_nat (by omega)
        have w4 : IntKind.u64.wrap ((i % 32 : Nat) : Int) = ((i % 32 : Nat) : Int) := wu_nat (by omega)
        simp (disch := first | exact sideD | fail) only [go_sem, g6, g8, g9, g10, e5]
        apply use
        case hl => exact sideX
        case h => exact rSub_okF dr dd (by omega) (by rw [val_digits, val_digits]; exact hle)
        rintro _ σ5 ⟨m5, c5, rfl, d5⟩ e6 l5
        have n_e6 := e6.next
        try simp only [add_next, set_next, fresh_next, low_next, lw_next] at n_e6
        rw [val_digits, val_digits] at d5
        have hOq5 := hOq.ext e6
        have hOq6 := hOq5.set (i := i / 32) b2'
        have dd5 := dd.ext e6
        have em : Sym.Mod σ2.next σ5 (σ5.set σ2.next (ow none (lq.set (i / 32) (lq.getD (i / 32) 0 + 2 ^ (i % 32))))) := (Mod.refl : Sym.Mod σ2.next σ5 σ5).set _
        simp (disch := first | exact sideD | fail) only [go_sem, g6, g8, g9, g10, quo_32, rem_32, w3, w4, ia_own, hOq5.at, lo_ow hx, shl_one, or_u32, b1', st_ow]
        have hpq5 : σ2.next < σ5.next := hOq5.lt
        have hlt' : σ2.next < σ'.next := hOq.lt
        have dd6 := dg_mod dd5 hnd em
        have d6 := dg_mod d5 (fun a ha => by injection ha with ha; subst ha; exact Nat.ne_of_gt hlt') em
        have E6 := em.ext (E.trans e6) hpq
        have l6 := E6.fresh_le
        apply use
        case hl => exact sideX
        case h => exact half_ok dd6 (by omega)
        rintro _ σ7 ⟨m7, c7, rfl, d7⟩ e7 l7
        have n_e7 := e7.next
        try simp only [add_next, set_next, fresh_next, low_next, lw_next] at n_e7
        rw [val_digits] at d7
        have hOq7 := hOq6.ext e7
        have d67 := d6.ext e7
        simp (disch := first | exact sideD | fail) only [go_sem, g6, g8, g9, g10, e4]
        refine ⟨i, Nat.lt_succ_self i, R - D, D / 2, _, _, _, _, _, _, _, by omega, rfl, trivial, rfl, rfl, d67, d7, hOq7, E6.trans e7, hnext, hhalf, Nat.lt_of_le_of_lt (Nat.sub_le _ _) hRB, by rw [hDi]; exact s2, by rw [b3', hDi]; exact s1, by rw [b3']; exact s3,
          fun a ha => by injection ha with ha; subst ha; exact Nat.ne_of_gt hlt', fun a ha => by injection ha with ha; subst ha; exact Nat.ne_of_gt hpq5⟩
      · have e5 : (0 ≤ cmp R D) = False := eq_false (fun h => hle (cmp_ge.1 h))
        simp (disch := first | exact sideD | fail) only [go_sem, g6, g8, g9, g10, e5]
        apply use
        case hl => exact sideX
        case h => exact half_ok dd (by omega)
        rintro _ σ7 ⟨m7, c7, rfl, d7⟩ e7 l7
        have n_e7 := e7.next
        try simp only [add_next, set_next, fresh_next, low_next, lw_next] at n_e7
        rw [val_digits] at d7
        have hlt' : σ2.next < σ'.next := hOq.lt
        simp (disch := first | exact sideD | fail) only [go_sem, g6, g8, g9, g10, e4]
        exact ⟨i, Nat.lt_succ_self i, R, D / 2, lq, _, _, _, _, _, _, by omega, rfl, trivial, rfl, rfl, dr.ext e7, d7, hOq.ext e7, E.trans e7, hnext, hhalf, hRB, by rw [← hDi]; omega, hXQ, hQi, hnr, fun a ha => by injection ha with ha; subst ha; exact Nat.ne_of_gt hlt'⟩
end
section
theorem W2_ap33 {all : Array Oper} {g : Fm} {σ : St} {d : Tmp} {ty : TypeId} {pos : String} {after : Array Edge} {r : List Oper} {K : Fm → St → Prop} {s x : Operand} {b : Option Addr} {n c : Nat} {l : List Nat}
    (hl : σ.low ≤ σ.next) (hs : ev g s = .slice none 0 0) (hx : ev g x = .slice b n c) (h : Dg cxH σ b n c l) (hn : n ≤ 1000000)
    (hK : ∀ b' c' σ', Dg cxH σ' b' n c' l → Ext' σ σ' → σ'.low ≤ σ'.next → W2 cxH all r (setF g d (.slice b' n c')) σ' K) :
    W2 cxH all (⟨some d, .call { callee := .builtin .append, args := #[s, x], argTypes := #[33, 33] }, ty, pos, after, none⟩ :: r) g σ K := by
  rw [W2_some, Wop_ap, hs, hx]
  have h' : Dg cxH (σ.lw σ.next) b n c l := h
  refine ap_33 h' hn fun b' c' σ' hd he => ?_
  have e2 := (Ext'.refl σ).drew hl he
  rw [blk_slice]
  refine ⟨.inl (.inl ⟨blockOf (ev g s) ++ blockOf (ev g x), true, ?_⟩), hK b' c' _ hd e2 (e2.le hl)⟩
  show FP.part (blockOf (ev g s) ++ blockOf (ev g x)) (cond (Nat.blt σ'.low σ.next) (blockOf (ev g s)) []) true = _
  rw [hs]
  cases Nat.blt σ'.low σ.next <;> rfl
theorem rgcd_ok {σ : St} {v w : Value} {x y : Int} (h : GInt σ v x) (h2 : GInt σ w y) : C cxH 108 [v, w] σ fun v σ' => IsInt σ' v (Nat.gcd x.natAbs y.natAbs : Nat) ∧ Ext' σ σ' := by
  have hsx := gInt_sz h
  have hsy := gInt_sz h2
  obtain ⟨na, ba, ma, ca, la, rfl, ha, hna, rfl⟩ := h
  obtain ⟨nb, bb, mb, cb, lb, rfl, hb, hnb, rfl⟩ := h2
  have hla := digits_len_le ha.lt
  have hlb := digits_len_le hb.lt
  have hl1 := ha.len
  have hl2 := hb.len
  unfold Sz at hsx hsy
  rw [sval_natAbs] at hsx hsy
  rw [sval_natAbs, sval_natAbs]
  refine C_in (N := 30) (rs := [.cell 4 35]) fn_108 (by rfl) (by rfl) (by rfl) (by rfl) (by rfl) (by rfl) ?_
  have e0 : Ext' σ.fresh (((σ.fresh.add (.row [.bool na, .slice ba ma ca] 35)).add (.row [.bool nb, .slice bb mb cb] 35)).add (.row [.bool false, .slice none 0 0] 35)) := (((Ext'.refl _).add _).add _).add _
  have ha' := (ha.ext (Ext'.to_fresh σ)).ext e0
  have hb' := (hb.ext (Ext'.to_fresh σ)).ext e0
  simp (disch := first | exact sideD | fail) only [go_sem, al_35, lo_35, fa_35_1, lo_33_1]
  apply useD
  case hl => exact sideX
  case h => exact trim_ok' ha' (by omega)
  case hR => exact fun _ _ _ h => h
  rintro _ σ1 ⟨m1, rfl, d1⟩ e1 l1
  have n_e1 := e1.next
  try simp only [add_next, set_next, fresh_next, low_next, lw_next] at n_e1
  have hb1 := hb'.ext e1
  have hm1 := d1.len
  refine W2_ap33 l1 (by simp (disch := first | exact sideD | fail) only [go_sem]) (by simp (disch := first | exact sideD | fail) only [go_sem]) d1 (by omega) fun b2 c2 σ2 d2 e2 l2 => ?_
  have n_e2 := e2.next
  have hb2 := hb1.ext e2
  simp (disch := first | exact sideD | fail) only [go_sem, e2.look, e1.look, fa_35_1, lo_33_1]
  apply useD
  case hl => exact sideX
  case h => exact trim_ok' hb2 (by omega)
  case hR => exact fun _ _ _ h => h
  rintro _ σ3 ⟨m3, rfl, d3⟩ e3 l3
  have n_e3 := e3.next
  try simp only [add_next, set_next, fresh_next, low_next, lw_next] at n_e3
  have hm3 := d3.len
  refine W2_ap33 l3 (by simp (disch := first | exact sideD | fail) only [go_sem]) (by simp (disch := first | exact sideD | fail) only [go_sem]) d3 (by omega) fun b4 c4 σ4 d4 e4 l4 => ?_
  have n_e4 := e4.next
  have d2' := (d2.ext e3).ext e4
  have E := (((e0.trans e1).trans e2).trans e3).trans e4
  have hc : Sym.look cxH σ4 (σ.next + 2) = some (.row [.bool false, .slice none 0 0] 35) := by simp (disch := first | exact sideD | fail) only [go_sem, e4.look, e3.look, e2.look, e1.look]
  simp (disch := first | exact sideD | fail) only [go_sem]
  have hp4 : σ.next + 2 < σ4.next := by omega
  refine Wloop_inv (fun m g σ' => ∃ (X Y : Nat) (bx by' : Option Addr) (n cx' n' cy : Nat), m = Y ∧ X < B ^ 100000 ∧ Y < B ^ 100000 ∧ g 4 = .pointer (some ⟨σ.next + 2, 0, none⟩) ∧ g 5 = .slice bx n cx' ∧ g 6 = .slice by' n' cy ∧ Dg cxH σ' bx n cx' (digits X) ∧ Dg cxH σ' by' n' cy (digits Y) ∧
      Ext' σ.fresh σ' ∧ Sym.look cxH σ' (σ.next + 2) = some (.row [.bool false, .slice none 0 0] 35) ∧ σ.next + 2 < σ'.next ∧ Nat.gcd X Y = Nat.gcd (val la) (val lb)) (val lb) (by rfl)
    ⟨val la, val lb, b2, b4, m1, c2, m3, c4, rfl, hsx, hsy, by simp (disch := first | exact sideD | fail) only [go_sem], by simp (disch := first | exact sideD | fail) only [go_sem], by simp (disch := first | exact sideD | fail) only [go_sem], d2', d4, E, hc, hp4, rfl⟩ ?_
  clear d1 d2 d3 d4 d2' e0 e1 e2 e3 e4 l1 l2 l3 l4 n_e1 n_e2 n_e3 n_e4 E hc hp4 ha' hb' hb1 hb2
  rintro m g σ' ⟨X, Y, bx, by', n, cx', n', cy, rfl, hX, hY, g4, g5, g6, dx, dy, E, hc, hp4, hg⟩
  have hlow := E.fresh_le
  have hlx := dx.len
  have hly := dy.len
  have hlx2 := digits_length hX
  have hly2 := digits_length hY
  by_cases hY0 : m = 0
  · subst hY0
    rw [digits_zero] at hly
    have e : ((0 : Int) < (n' : Int)) = False := eq_false (by simp at hly; omega)
    simp (disch := first | exact sideD | fail) only [go_sem, g4, g5, g6, e]
    apply use
    case hl => exact sideX
    case h => exact make_ok (neg := false) dx (by omega)
    rintro v σ5 h5 e5 l5
    have n_e5 := e5.next
    try simp only [add_next, set_next, fresh_next, low_next, lw_next] at n_e5
    rw [Nat.gcd_zero_right] at hg
    have hv : sval false (digits X) = ((Nat.gcd (val la) (val lb) : Nat) : Int) := by
      rw [sval_sv, val_digits, ← hg]
      rfl
    rw [hv] at h5
    have hc5 : Sym.look cxH σ5 (σ.next + 2) = some (.row [.bool false, .slice none 0 0] 35) := by simp (disch := first | exact sideD | fail) only [go_sem, e5.look, hc]
    obtain ⟨b3, n3, c3, rfl, h6, h7⟩ := isInt_put (σ0 := σ) h5 hc5 (E.trans e5) (by omega)
    simp (disch := first | exact sideD | fail) only [go_sem, g4, hc5, st_35, lo_35]
    exact ⟨h6, h7⟩
  · have e : ((0 : Int) < (n' : Int)) = True := eq_true (by
      rw [hly, digits_pos hY0, List.length_cons]
      omega)
    simp (disch := first | exact sideD | fail) only [go_sem, g4, g5, g6, e]
    apply use
    case hl => exact sideX
    case h => exact rdiv_ok dx dy (by omega) (by omega) (by rw [val_digits]; exact hY0)
    rintro _ σ5 ⟨aq, mq, cq, ar, mr, cr, rfl, dq, dr⟩ e5 l5
    have n_e5 := e5.next
    try simp only [add_next, set_next, fresh_next, low_next, lw_next] at n_e5
    rw [val_digits, val_digits] at dr
    have dy' := dy.ext e5
    have E6 := E.trans e5
    have hc6 : Sym.look cxH σ5 (σ.next + 2) = some (.row [.bool false, .slice none 0 0] 35) := by simp (disch := first | exact sideD | fail) only [go_sem, e5.look, hc]
    have hlt : X % m < m := Nat.mod_lt _ (Nat.pos_of_ne_zero hY0)
    simp (disch := first | exact sideD | fail) only [go_sem, g4, g6]
    refine ⟨X % m, hlt, m, X % m, _, _, _, _, _, _, rfl, hY, Nat.lt_trans hlt hY, trivial, rfl, rfl, dy', dr, E6, hc6, by omega, ?_⟩
    rw [← hg, Nat.gcd_comm m, ← Nat.gcd_rec, Nat.gcd_comm]
theorem rdivMod_ok {σ : St} {v w : Value} {x y : Int} (h : GInt σ v x) (h2 : GInt σ w y) (hy : y ≠ 0) (hd : y ∣ x) : C cxH 109 [v, w] σ fun v σ' => (∃ q r, v = .tuple #[q, r, .int .i64 0] ∧ IsInt σ' q (x / y) ∧ IsInt σ' r 0) ∧ Ext' σ σ' := by
  have hsx := gInt_sz h
  have hsy := gInt_sz h2
  obtain ⟨na, ba, ma, ca, la, rfl, ha, hna, hxe⟩ := h
  obtain ⟨nb, bb, mb, cb, lb, rfl, hb, hnb, hye⟩ := h2
  have hmod : x.natAbs % y.natAbs = 0 := Nat.mod_eq_zero_of_dvd (Int.natAbs_dvd_natAbs.2 hd)
  have hb0 : y.natAbs ≠ 0 := by omega
  have hdiv : sv (decide (x < 0) != decide (y < 0)) (x.natAbs / y.natAbs) = x / y := by
    rw [← sv_div hb0 hmod]
    have e1 : sv (decide (x < 0)) x.natAbs = x := by
      have := sval_digits x
      rw [sval_sv, val_digits] at this
      exact this
    have e2 : sv (decide (y < 0)) y.natAbs = y := by
      have := sval_digits y
      rw [sval_sv, val_digits] at this
      exact this
    rw [e1, e2]
  refine C_in (N := 59) (rs := [.cell 4 35, .cell 5 35, .tmp 6]) fn_109 (by rfl) (by rfl) (by rfl) (by rfl) (by rfl) (by rfl) ?_
  have e0 : Ext' σ.fresh ((((σ.fresh.add (.row [.bool na, .slice ba ma ca] 35)).add (.row [.bool nb, .slice bb mb cb] 35)).add (.row [.bool false, .slice none 0 0] 35)).add (.row [.bool false, .slice none 0 0] 35)) := ((((Ext'.refl _).add _).add _).add _).add _
  have ha' := (ha.ext (Ext'.to_fresh σ)).ext e0
  have hb' := (hb.ext (Ext'.to_fresh σ)).ext e0
  simp (disch := first | exact sideD | fail) only [go_sem, al_35, lo_35]
  apply useD
  case hl => exact sideX
  case h => exact canon_ok ⟨na, ba, ma, ca, la, rfl, ha', hna, hxe⟩
  case hR => exact fun _ _ _ h => h
  rintro v σ1 h3 e1 l1
  have n_e1 := e1.next
  try simp only [add_next, set_next, fresh_next, low_next, lw_next] at n_e1
  obtain ⟨b3, n3, c3, rfl, d3⟩ := h3
  have hb1 := hb'.ext e1
  simp (disch := first | exact sideD | fail) only [go_sem, e1.look, lo_35]
  apply useD
  case hl => exact sideX
  case h => exact canon_ok ⟨nb, bb, mb, cb, lb, rfl, hb1, hnb, hye⟩
  case hR => exact fun _ _ _ h => h
  rintro v σ2 h4 e2 l2
  have n_e2 := e2.next
  try simp only [add_next, set_next, fresh_next, low_next, lw_next] at n_e2
  obtain ⟨b4, n4, c4, rfl, d4⟩ := h4
  replace d3 := d3.ext e2
  have E := (e0.trans e1).trans e2
  have hc1 : Sym.look cxH σ2 σ.next = some (.row [.bool na, .slice ba ma ca] 35) := by simp (disch := first | exact sideD | fail) only [go_sem, e1.look, e2.look]
  have hc2 : Sym.look cxH σ2 (σ.next + 1) = some (.row [.bool nb, .slice bb mb cb] 35) := by simp (disch := first | exact sideD | fail) only [go_sem, e1.look, e2.look]
  obtain ⟨sx, hsxe⟩ : ∃ sx, sx = decide (x < 0) := ⟨_, rfl⟩
  obtain ⟨sy, hsye⟩ : ∃ sy, sy = decide (y < 0) := ⟨_, rfl⟩
  rw [← hsxe, ← hsye] at hdiv
  rw [← hsxe, ← hsye]
  have d3' := dg_set (cs' := [.bool sx, .slice b3 n3 c3]) (e' := 35) d3 hc1 rfl rfl
  have d4' := dg_set (cs' := [.bool sx, .slice b3 n3 c3]) (e' := 35) d4 hc1 rfl rfl
  have hc3 : Sym.look cxH (σ2.set σ.next (.row [.bool sx, .slice b3 n3 c3] 35)) (σ.next + 1) = some (.row [.bool nb, .slice bb mb cb] 35) := by simp (disch := first | exact sideD | fail) only [go_sem, hc2]
  have d3'' := dg_set (cs' := [.bool sy, .slice b4 n4 c4]) (e' := 35) d3' hc3 rfl rfl
  have d4'' := dg_set (cs' := [.bool sy, .slice b4 n4 c4]) (e' := 35) d4' hc3 rfl rfl
  have E2 : Ext' σ.fresh ((σ2.set σ.next (.row [.bool sx, .slice b3 n3 c3] 35)).set (σ.next + 1) (.row [.bool sy, .slice b4 n4 c4] 35)) := (E.set _ (Nat.le_refl _)).set _ (Nat.le_succ _)
  have hl3 := d3.len
  have hl4 := d4.len
  have hk3 := hsx.len
  have hk4 := hsy.len
  have hn4 : ((n4 : Int) = 0) = False := eq_false (by
    rw [hl4, digits_pos hb0, List.length_cons]
    omega)
  have hcr1 : Sym.look cxH σ2 (σ.next + 1 + 1) = some (.row [.bool false, .slice none 0 0] 35) := by simp (disch := first | exact sideD | fail) only [go_sem, e1.look, e2.look]
  have hcr2 : Sym.look cxH σ2 (σ.next + 1 + 1 + 1) = some (.row [.bool false, .slice none 0 0] 35) := by simp (disch := first | exact sideD | fail) only [go_sem, e1.look, e2.look]
  simp (disch := first | exact sideD | fail) only [go_sem, hc1, hc2, st_35', fa_35_0, lo_4_0, fa_35_1, lo_33_1, hn4]
  obtain ⟨σ3, hσ3⟩ : ∃ σ3, σ3 = (σ2.set σ.next (.row [.bool sx, .slice b3 n3 c3] 35)).set (σ.next + 1) (.row [.bool sy, .slice b4 n4 c4] 35) := ⟨_, rfl⟩
  have k1 : Sym.look cxH σ3 σ.next = some (.row [.bool sx, .slice b3 n3 c3] 35) := by
    rw [hσ3]
    simp (disch := first | exact sideD | fail) only [go_sem]
  have k2 : Sym.look cxH σ3 (σ.next + 1) = some (.row [.bool sy, .slice b4 n4 c4] 35) := by
    rw [hσ3]
    simp (disch := first | exact sideD | fail) only [go_sem]
  have k3 : Sym.look cxH σ3 (σ.next + 1 + 1) = some (.row [.bool false, .slice none 0 0] 35) := by
    rw [hσ3]
    simp (disch := first | exact sideD | fail) only [go_sem, hcr1]
  have k4 : Sym.look cxH σ3 (σ.next + 1 + 1 + 1) = some (.row [.bool false, .slice none 0 0] 35) := by
    rw [hσ3]
    simp (disch := first | exact sideD | fail) only [go_sem, hcr2]
  have hn3 : σ.next + 1 + 1 + 1 < σ3.next := by
    rw [hσ3, set_next, set_next]
    omega
  rw [← hσ3] at d3'' d4'' E2
  rw [← hσ3]
  have l3 := E2.fresh_le
  clear hσ3 hc1 hc2 hc3 hcr1 hcr2 d3 d3' d4 d4' E e0 e1 e2 l1 l2 n_e1 n_e2 ha' hb' hb1
  apply use
  case hl => exact sideX
  case h => exact rdiv_ok d3'' d4'' (by omega) (by omega) (by rw [val_digits]; exact hb0)
  rintro _ σ4 ⟨aq, mq, cq, ar, mr, cr, rfl, dq, dr⟩ e4 l4
  have n_e4 := e4.next
  try simp only [add_next, set_next, fresh_next, low_next, lw_next] at n_e4
  rw [val_digits, val_digits] at dq dr
  rw [hmod] at dr
  have hlq := dq.len
  have hqs : (digits (x.natAbs / y.natAbs)).length ≤ 100000 := digits_length (Nat.lt_of_le_of_lt (Nat.div_le_self _ _) hsx)
  have hlr := dr.len
  rw [digits_zero] at hlr
  have hlr0 : mr = 0 := hlr
  simp (disch := first | exact sideD | fail) only [go_sem, e4.look, k1, k2, fa_35_0, lo_4_0]
  apply useD
  case hl => exact sideX
  case h => exact make_ok (neg := sx != sy) dq (by omega)
  case hR => exact fun _ _ _ h => h
  rintro vq σ5 hI5 e5 l5
  have n_e5 := e5.next
  try simp only [add_next, set_next, fresh_next, low_next, lw_next] at n_e5
  have dr5 := dr.ext e5
  simp (disch := first | exact sideD | fail) only [go_sem, e5.look, e4.look, k1, k2, fa_35_0, lo_4_0]
  apply useD
  case hl => exact sideX
  case h => exact make_ok (neg := sx) dr5 (by omega)
  case hR => exact fun _ _ _ h => h
  rintro vr σ6 hI6 e6 l6
  have n_e6 := e6.next
  try simp only [add_next, set_next, fresh_next, low_next, lw_next] at n_e6
  rw [sval_sv, val_digits, hdiv] at hI5
  rw [sval_sv, val_digits, sv_zero] at hI6
  have hI5' := isInt_ext hI5 e6
  have E6 := ((E2.trans e4).trans e5).trans e6
  have j3 : Sym.look cxH σ6 (σ.next + 1 + 1) = some (.row [.bool false, .slice none 0 0] 35) := by simp (disch := first | exact sideD | fail) only [go_sem, e6.look, e5.look, e4.look, k3]
  have j4 : Sym.look cxH σ6 (σ.next + 1 + 1 + 1) = some (.row [.bool false, .slice none 0 0] 35) := by simp (disch := first | exact sideD | fail) only [go_sem, e6.look, e5.look, e4.look, k4]
  simp (disch := first | exact sideD | fail) only [go_sem, al_35]
  have ea : Ext' σ6 ((σ6.add (.row [.bool false, .slice none 0 0] 35)).add (.row [.bool false, .slice none 0 0] 35)) := ((Ext'.refl _).add _).add _
  have hJ5 := isInt_ext hI5' ea
  have hJ6 := isInt_ext hI6 ea
  have hc5 : Sym.look cxH ((σ6.add (.row [.bool false, .slice none 0 0] 35)).add (.row [.bool false, .slice none 0 0] 35)) σ6.next = some (.row [.bool false, .slice none 0 0] 35) := by simp (disch := first | exact sideD | fail) only [go_sem]
  have hc6 : Sym.look cxH ((σ6.add (.row [.bool false, .slice none 0 0] 35)).add (.row [.bool false, .slice none 0 0] 35)) (σ6.next + 1) = some (.row [.bool false, .slice none 0 0] 35) := by simp (disch := first | exact sideD | fail) only [go_sem]
  obtain ⟨b6, n6, c6, b7, n7, c7, σ7, rfl, rfl, hσ7, hk1, hk2, hI8, hI9, E7⟩ := two_put (σ0 := σ) (u := .int .i64 0) hJ5 hJ6 hc5 hc6 (by omega) (E6.trans ea) (by have := E6.next; exact this) (by have := E6.next; exact Nat.le_succ_of_le this)
  have l7 := E7.fresh_le
  have hn7 : n7 = 0 := by
    obtain ⟨b8, n8, c8, e8, d8⟩ := hI9
    injection e8 with e8
    simp only [Array.mk.injEq, List.cons.injEq, Value.slice.injEq] at e8
    have := d8.len
    rw [show (0 : Int).natAbs = 0 from rfl, digits_zero] at this
    rw [e8.2.1.2.1]
    exact this
  have hz : ((0 : Int) < (n7 : Int)) = False := eq_false (by omega)
  simp (disch := first | exact sideX | fail) only [go_sem, hc5, hc6, st_35]
  rw [← hσ7]
  simp (disch := first | exact sideX | fail) only [go_sem, hk2, fa_35_1, lo_33_1, hz]
  rw [Wc_drawF (by kernel_rfl)]
  have j5 : Sym.look cxH σ7 (σ.next + 1 + 1) = some (.row [.bool false, .slice none 0 0] 35) := by
    rw [hσ7]
    have : σ.next + 1 + 1 < σ6.next := by omega
    simp (disch := first | exact sideD | fail) only [go_sem, j3]
  have j6 : Sym.look cxH σ7 (σ.next + 1 + 1 + 1) = some (.row [.bool false, .slice none 0 0] 35) := by
    rw [hσ7]
    have : σ.next + 1 + 1 + 1 < σ6.next := by omega
    simp (disch := first | exact sideD | fail) only [go_sem, j4]
  have v1 : Sym.loadVar cxH σ7 35 ⟨σ6.next, 0, none⟩ = some (.agg #[.bool (decide (x / y < 0)), .slice b6 n6 c6]) := loadVar_eq.2 ⟨_, hk1, by unfold loadO; rw [ty_35]; rfl⟩
  have v2 : Sym.loadVar cxH σ7 35 ⟨σ6.next + 1, 0, none⟩ = some (.agg #[.bool (decide ((0 : Int) < 0)), .slice b7 n7 c7]) := loadVar_eq.2 ⟨_, hk2, by unfold loadO; rw [ty_35]; rfl⟩
  have hn8 : σ.next + 1 + 1 + 1 < σ6.next := by omega
  have hn9 : σ6.next + 1 < σ7.next := by
    rw [hσ7, set_next, set_next, add_next, add_next]
    omega
  refine Wd_ld (p := σ6.next) (off := 0) l7 (by simp (disch := first | exact sideD | fail) only [go_sem]) v1 fits_nil' ?_
  refine Wd_ld (p := σ6.next + 1) (off := 0) l7 (by simp (disch := first | exact sideD | fail) only [go_sem]) v2 (fits_rr fits_nil') ?_
  refine Wd_st (p := σ.next + 1 + 1) (off := 0) (σ' := σ7.set (σ.next + 1 + 1) (.row [.bool (decide (x / y < 0)), .slice b6 n6 c6] 35)) l7 (by simp (disch := first | exact sideD | fail) only [go_sem]) (by simp (disch := first | exact sideD | fail) only [go_sem, j5, st_35]) (fits_wr (by omega) (fits_wr (by omega) fits_nil')) ?_
  refine Wd_st (p := σ.next + 1 + 1 + 1) (off := 0) (σ' := (σ7.set (σ.next + 1 + 1) (.row [.bool (decide (x / y < 0)), .slice b6 n6 c6] 35)).set (σ.next + 1 + 1 + 1) (.row [.bool (decide ((0 : Int) < 0)), .slice b7 n7 c7] 35)) sideX (by simp (disch := first | exact sideD | fail) only [go_sem]) (by simp (disch := first | exact sideD | fail) only [go_sem, j6, st_35]) (fits_ww (by omega) (fits_wr (by omega) (fits_wr (by omega) fits_nil'))) ?_
  refine Wd_as sideX ?_ fits_nil
  rw [Wd_nil]
  have hI10 := isInt_set (cs' := [.bool (decide (x / y < 0)), .slice b6 n6 c6]) (e' := 35) hI8 j5 rfl rfl
  have j6' : Sym.look cxH (σ7.set (σ.next + 1 + 1) (.row [.bool (decide (x / y < 0)), .slice b6 n6 c6] 35)) (σ.next + 1 + 1 + 1) = some (.row [.bool false, .slice none 0 0] 35) := by simp (disch := first | exact sideD | fail) only [go_sem, j6]
  have hI11 := isInt_set (cs' := [.bool (decide ((0 : Int) < 0)), .slice b7 n7 c7]) (e' := 35) hI10 j6' rfl rfl
  have hR10 := isInt_set (cs' := [.bool (decide (x / y < 0)), .slice b6 n6 c6]) (e' := 35) hI9 j5 rfl rfl
  have hR11 := isInt_set (cs' := [.bool (decide ((0 : Int) < 0)), .slice b7 n7 c7]) (e' := 35) hR10 j6' rfl rfl
  simp (disch := first | exact sideD | fail) only [go_sem, lo_35]
  exact ⟨⟨_, _, rfl, isInt_back' hI11 (fun hp => (plain_t3 hp).1), isInt_back' hR11 fun hp => (plain_t3 hp).2⟩, back_ext ((E7.set _ (by show σ.next ≤ _; omega)).set _ (by show σ.next ≤ _; omega))⟩
end
end
end Go.Proofs.YtfdflggfffajaaaGreatDoor
