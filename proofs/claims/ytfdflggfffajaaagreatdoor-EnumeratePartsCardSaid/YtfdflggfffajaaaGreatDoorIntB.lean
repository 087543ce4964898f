/- Integers, second part: addition, products, shifts. -/
import Derived.Test.YtfdflggfffajaaaGreatDoorIntA
set_option linter.unusedVariables false
set_option linter.unusedSimpArgs false
set_option linter.unusedSectionVars false
namespace Go.Proofs.YtfdflggfffajaaaGreatDoor
open Go Go.Num Go.Proofs
open Go.Sym hiding val
noncomputable section
attribute [local congr] blk_congr Wpick_congr Wgd_congr Wgd'_congr Wcond_congr Wbin_congr Wun_congr Wconv_congr Wext_congr Wfa_congr Wfd_congr Wia_congr Wld_congr Wlen_congr Wst_congr Wbox_congr WldO_congr WstO_congr Wmk_congr Wsl_congr Wap_congr Wbs_congr Wbd_congr Wfn_congr C_congr
section
def sv (neg : Bool) (n : Nat) : Int := if neg then -(n : Int) else (n : Int)
theorem sval_sv {neg : Bool} {l : List Nat} : sval neg l = sv neg (val l) := rfl
theorem sv_not {neg : Bool} {n : Nat} : sv (!neg) n = - sv neg n := by cases neg <;> simp [sv]
theorem sv_add {neg : Bool} {m n : Nat} : sv neg (m + n) = sv neg m + sv neg n := by cases neg <;> simp [sv] <;> omega
theorem sv_sub {a b : Bool} {m n : Nat} (h : a ≠ b) (hle : n ≤ m) : sv a (m - n) = sv a m + sv b n := by cases a <;> cases b <;> simp [sv] at h ⊢ <;> omega
theorem sv_sub' {a b : Bool} {m n : Nat} (h : a ≠ b) (hle : m ≤ n) : sv b (n - m) = sv a m + sv b n := by cases a <;> cases b <;> simp [sv] at h ⊢ <;> omega
theorem opBin_eql_bool {ox oy : Operand} {a b : Bool} : opBin cxH .eql 4 ox oy (.bool a) (.bool b) = some (.bool (a == b)) := by
  cases a <;> cases b <;> kernel_rfl
theorem wbin_eql_bool {ox oy : Operand} {a b : Bool} {K : Value → Prop} : Wbin cxH .eql 4 ox oy (.bool a) (.bool b) K = K (.bool (a == b)) := by
  unfold Wbin
  rw [opBin_eql_bool, Wo_some]
attribute [go_sem ↓] wbin_eql_bool
theorem cmp_ge {x y : Nat} : 0 ≤ cmp x y ↔ y ≤ x := by
  unfold cmp
  rw [Int.sign_nonneg_iff]
  omega
theorem sum_ok {σ : St} {v w : Value} {x y : Int} {neg : Bool} (h : GInt σ v x) (h2 : GInt σ w y) : C cxH 150 [v, w, .bool neg] σ fun v σ' => IsInt σ' v (x + sv neg y.natAbs) ∧ Ext' σ σ' := by
  obtain ⟨na, ba, ma, ca, la, rfl, ha, hna, rfl⟩ := h
  obtain ⟨nb, bb, mb, cb, lb, rfl, hb, hnb, rfl⟩ := h2
  have hla := digits_len_le ha.lt
  have hlb := digits_len_le hb.lt
  have hl1 := ha.len
  have hl2 := hb.len
  rw [sval_natAbs, sval_sv]
  refine C_in (N := 39) (rs := [.cell 6 35]) fn_150 (by rfl) (by rfl) (by rfl) (by rfl) (by rfl) (by rfl) ?_
  have e0 : Ext' σ.fresh (((σ.fresh.add (.row [.bool na, .slice ba ma ca] 35)).add (.row [.bool nb, .slice bb mb cb] 35)).add (.row [.bool false, .slice none 0 0] 35)) := (((Ext'.refl _).add _).add _).add _
  have ha' := (ha.ext (Ext'.to_fresh σ)).ext e0
  have hb' := (hb.ext (Ext'.to_fresh σ)).ext e0
  simp (disch := first | exact sideD | fail) only [go_sem, al_35, lo_35]
  apply useD
  case hl => exact sideX
  case h => exact mag_ok ha' (by omega)
  case hR => exact fun _ _ _ h => h
  rintro _ σ1 ⟨m1, rfl, d1⟩ e1 l1
  have n_e1 := e1.next
  try simp only [add_next, set_next, fresh_next, low_next, lw_next] at n_e1
  have hb'' := hb'.ext e1
  simp (disch := first | exact sideD | fail) only [go_sem, e1.look, lo_35]
  apply useD
  case hl => exact sideX
  case h => exact mag_ok hb'' (by omega)
  case hR => exact fun _ _ _ h => h
  rintro _ σ2 ⟨m2, rfl, d2⟩ e2 l2
  have n_e2 := e2.next
  try simp only [add_next, set_next, fresh_next, low_next, lw_next] at n_e2
  replace d1 := d1.ext e2
  have hm1 := d1.len
  have hm2 := d2.len
  have E := (e0.trans e1).trans e2
  simp (disch := first | exact sideD | fail) only [go_sem, e2.look, e1.look, fa_35_0, lo_4_0]
  by_cases hs : na = neg
  · have t1 : (na == neg) = true := by simp [hs]
    simp (disch := first | exact sideD | fail) only [go_sem, t1]
    apply use
    case hl => exact sideX
    case h => exact plus_ok d1 d2 (by omega) (by omega)
    rintro _ σ3 ⟨b4, m4, c4, l4, rfl, d3, hm4, hv4⟩ e3 l3
    have n_e3 := e3.next
    try simp only [add_next, set_next, fresh_next, low_next, lw_next] at n_e3
    simp (disch := first | exact sideD | fail) only [go_sem]
    apply use
    case hl => exact sideX
    case h => exact canonical_ok d3 (by omega)
    rintro v σ4 h4 e4 l4
    have n_e4 := e4.next
    try simp only [add_next, set_next, fresh_next, low_next, lw_next] at n_e4
    rw [sval_sv, hv4, val_digits, val_digits, sv_add, ← hs] at h4
    rw [← hs]
    have hc : Sym.look cxH σ4 (σ.next + 2) = some (.row [.bool false, .slice none 0 0] 35) := by simp (disch := first | exact sideD | fail) only [go_sem, e4.look, e3.look, e2.look, e1.look]
    obtain ⟨b3, n3, c3, rfl, h4, h5⟩ := isInt_put (σ0 := σ) h4 hc ((E.trans e3).trans e4) (by omega)
    simp (disch := first | exact sideD | fail) only [go_sem, hc, st_35, lo_35]
    exact ⟨h4, h5⟩
  · have t1 : (na == neg) = false := by simp [hs]
    simp (disch := first | exact sideD | fail) only [go_sem, t1]
    apply usep
    case h => exact compare_ok d1 d2 (by omega) (by omega)
    rintro _ rfl
    by_cases hle : val lb ≤ val la
    · have t2 : (0 ≤ cmp (val la) (val lb)) = True := eq_true (cmp_ge.2 hle)
      simp (disch := first | exact sideD | fail) only [go_sem, t2, e2.look, e1.look, fa_35_0, lo_4_0]
      apply useD
      case hl => exact sideX
      case h => exact minus_ok d1 d2 (by omega) (by rw [val_digits, val_digits]; exact hle)
      case hR => exact fun _ _ _ h => h
      rintro _ σ3 ⟨b4, c4, l4, rfl, d3, hv4⟩ e3 l3
      have n_e3 := e3.next
      try simp only [add_next, set_next, fresh_next, low_next, lw_next] at n_e3
      simp (disch := first | exact sideD | fail) only [go_sem]
      apply useD
      case hl => exact sideX
      case h => exact canonical_ok d3 (by omega)
      case hR => exact fun _ _ _ h => h
      rintro v σ4 h4 e4 l4
      have n_e4 := e4.next
      try simp only [add_next, set_next, fresh_next, low_next, lw_next] at n_e4
      rw [sval_sv, hv4, val_digits, val_digits, sv_sub hs hle] at h4
      have hc : Sym.look cxH σ4 (σ.next + 2) = some (.row [.bool false, .slice none 0 0] 35) := by simp (disch := first | exact sideD | fail) only [go_sem, e4.look, e3.look, e2.look, e1.look]
      obtain ⟨b3, n3, c3, rfl, h4, h5⟩ := isInt_put (σ0 := σ) h4 hc ((E.trans e3).trans e4) (by omega)
      simp (disch := first | exact sideD | fail) only [go_sem, hc, st_35, lo_35]
      exact ⟨h4, h5⟩
    · have t2 : (0 ≤ cmp (val la) (val lb)) = False := eq_false (fun h => hle (cmp_ge.1 h))
      simp (disch := first | exact sideD | fail) only [go_sem, t2]
      apply use
      case hl => exact sideX
      case h => exact minus_ok d2 d1 (by omega) (by rw [val_digits, val_digits]; omega)
      rintro _ σ3 ⟨b4, c4, l4, rfl, d3, hv4⟩ e3 l3
      have n_e3 := e3.next
      try simp only [add_next, set_next, fresh_next, low_next, lw_next] at n_e3
      simp (disch := first | exact sideD | fail) only [go_sem]
      apply use
      case hl => exact sideX
      case h => exact canonical_ok d3 (by omega)
      rintro v σ4 h4 e4 l4
      have n_e4 := e4.next
      try simp only [add_next, set_next, fresh_next, low_next, lw_next] at n_e4
      rw [sval_sv, hv4, val_digits, val_digits, sv_sub' hs (by omega)] at h4
      have hc : Sym.look cxH σ4 (σ.next + 2) = some (.row [.bool false, .slice none 0 0] 35) := by simp (disch := first | exact sideD | fail) only [go_sem, e4.look, e3.look, e2.look, e1.look]
      obtain ⟨b3, n3, c3, rfl, h4, h5⟩ := isInt_put (σ0 := σ) h4 hc ((E.trans e3).trans e4) (by omega)
      simp (disch := first | exact sideD | fail) only [go_sem, hc, st_35, lo_35]
      exact ⟨h4, h5⟩
theorem sub_ok {σ : St} {v w : Value} {x y : Int} (h : GInt σ v x) (h2 : GInt σ w y) : C cxH 100 [v, w] σ fun v σ' => IsInt σ' v (x - y) ∧ Ext' σ σ' := by
  obtain ⟨na, ba, ma, ca, la, rfl, ha, hna, hx⟩ := h
  obtain ⟨nb, bb, mb, cb, lb, rfl, hb, hnb, hy⟩ := h2
  refine C_in (N := 11) (rs := [.cell 4 35]) fn_100 (by rfl) (by rfl) (by rfl) (by rfl) (by rfl) (by rfl) ?_
  have e0 : Ext' σ.fresh (((σ.fresh.add (.row [.bool na, .slice ba ma ca] 35)).add (.row [.bool nb, .slice bb mb cb] 35)).add (.row [.bool false, .slice none 0 0] 35)) := (((Ext'.refl _).add _).add _).add _
  have ha' := (ha.ext (Ext'.to_fresh σ)).ext e0
  have hb' := (hb.ext (Ext'.to_fresh σ)).ext e0
  simp (disch := first | exact sideD | fail) only [go_sem, al_35, lo_35, fa_35_0, lo_4_0, Wun_not]
  apply use
  case hl => exact sideX
  case h => exact sum_ok ⟨na, ba, ma, ca, la, rfl, ha', hna, hx⟩ ⟨nb, bb, mb, cb, lb, rfl, hb', hnb, hy⟩
  rintro v σ1 h3 e1 l1
  have n_e1 := e1.next
  try simp only [add_next, set_next, fresh_next, low_next, lw_next] at n_e1
  rw [hy, sval_natAbs, sv_not, ← sval_sv, ← hy, ← Int.sub_eq_add_neg] at h3
  have hc : Sym.look cxH σ1 (σ.next + 2) = some (.row [.bool false, .slice none 0 0] 35) := by simp (disch := first | exact sideD | fail) only [go_sem, e1.look]
  obtain ⟨b3, n3, c3, rfl, h4, h5⟩ := isInt_put (σ0 := σ) h3 hc (e0.trans e1) (by omega)
  simp (disch := first | exact sideD | fail) only [go_sem, hc, st_35, lo_35]
  exact ⟨h4, h5⟩
theorem rAddI_ok {σ : St} {v w : Value} {x y : Int} (h : GInt σ v x) (h2 : GInt σ w y) : C cxH 151 [v, w] σ fun v σ' => IsInt σ' v (x + y) ∧ Ext' σ σ' := by
  obtain ⟨na, ba, ma, ca, la, rfl, ha, hna, rfl⟩ := h
  obtain ⟨nb, bb, mb, cb, lb, rfl, hb, hnb, rfl⟩ := h2
  have hla := digits_len_le ha.lt
  have hlb := digits_len_le hb.lt
  have hl1 := ha.len
  have hl2 := hb.len
  rw [sval_sv, sval_sv]
  refine C_in (N := 42) (rs := [.cell 4 35]) fn_151 (by rfl) (by rfl) (by rfl) (by rfl) (by rfl) (by rfl) ?_
  have e0 : Ext' σ.fresh (((σ.fresh.add (.row [.bool na, .slice ba ma ca] 35)).add (.row [.bool nb, .slice bb mb cb] 35)).add (.row [.bool false, .slice none 0 0] 35)) := (((Ext'.refl _).add _).add _).add _
  have ha' := (ha.ext (Ext'.to_fresh σ)).ext e0
  have hb' := (hb.ext (Ext'.to_fresh σ)).ext e0
  simp (disch := first | exact sideD | fail) only [go_sem, al_35, lo_35, fa_35_0, lo_4_0]
  by_cases hs : na = nb
  · have t1 : (na == nb) = true := by simp [hs]
    simp (disch := first | exact sideD | fail) only [go_sem, t1, fa_35_0, fa_35_1, lo_4_0, lo_33_1]
    apply useD
    case hl => exact sideX
    case h => exact rAdd_ok ha' hb' (by omega) (by omega)
    case hR => exact fun _ _ _ h => h
    rintro _ σ3 ⟨b4, m4, c4, rfl, d3⟩ e3 l3
    have n_e3 := e3.next
    try simp only [add_next, set_next, fresh_next, low_next, lw_next] at n_e3
    have hm := d3.len
    have hk : (digits (val la + val lb)).length ≤ max ma mb + 1 := digits_length (by
      have q1 := val_lt ha.lt
      have q2 := val_lt hb.lt
      have q3 : B ^ la.length ≤ B ^ max ma mb := Nat.pow_le_pow_right B_pos (by omega)
      have q4 : B ^ lb.length ≤ B ^ max ma mb := Nat.pow_le_pow_right B_pos (by omega)
      rw [Nat.pow_succ']
      have q5 : 2 * B ^ max ma mb ≤ B * B ^ max ma mb := Nat.mul_le_mul_right _ (by decide)
      generalize B * B ^ max ma mb = R at q5 ⊢
      omega)
    simp (disch := first | exact sideD | fail) only [go_sem]
    apply useD
    case hl => exact sideX
    case h => exact make_ok (neg := na) d3 (by omega)
    case hR => exact fun _ _ _ h => h
    rintro v σ4 h4 e4 l4
    have n_e4 := e4.next
    try simp only [add_next, set_next, fresh_next, low_next, lw_next] at n_e4
    rw [sval_sv, val_digits, sv_add] at h4
    rw [← hs]
    have hc : Sym.look cxH σ4 (σ.next + 2) = some (.row [.bool false, .slice none 0 0] 35) := by simp (disch := first | exact sideD | fail) only [go_sem, e4.look, e3.look]
    obtain ⟨b3, n3, c3, rfl, h4, h5⟩ := isInt_put (σ0 := σ) h4 hc ((e0.trans e3).trans e4) (by omega)
    simp (disch := first | exact sideD | fail) only [go_sem, hc, st_35, lo_35]
    exact ⟨h4, h5⟩
  · have t1 : (na == nb) = false := by simp [hs]
    simp (disch := first | exact sideD | fail) only [go_sem, t1, fa_35_0, fa_35_1, lo_4_0, lo_33_1]
    apply usep
    case h => exact compareDigits_ok ha' hb' (by omega) (by omega)
    rintro _ rfl
    by_cases hle : val lb ≤ val la
    · have t2 : (0 ≤ cmp (val la) (val lb)) = True := eq_true (cmp_ge.2 hle)
      simp (disch := first | exact sideD | fail) only [go_sem, t2, fa_35_0, fa_35_1, lo_4_0, lo_33_1]
      apply useD
      case hl => exact sideX
      case h => exact trim_ok' hb' (by omega)
      case hR => exact fun _ _ _ h => h
      rintro _ σ1 ⟨m1, rfl, d1⟩ e1 l1
      have n_e1 := e1.next
      try simp only [add_next, set_next, fresh_next, low_next, lw_next] at n_e1
      have ha'' := ha'.ext e1
      simp (disch := first | exact sideD | fail) only [go_sem]
      apply useD
      case hl => exact sideX
      case h => exact rSub_ok ha'' d1 (by omega) (by rw [val_digits]; exact hle)
      case hR => exact fun _ _ _ h => h
      rintro _ σ3 ⟨b4, m4, c4, rfl, d3⟩ e3 l3
      have n_e3 := e3.next
      try simp only [add_next, set_next, fresh_next, low_next, lw_next] at n_e3
      have hm := d3.len
      have hk : (digits (val la - val (digits (val lb)))).length ≤ ma := digits_length (Nat.lt_of_le_of_lt (Nat.sub_le _ _) (by rw [hl1]; exact val_lt ha.lt))
      simp (disch := first | exact sideD | fail) only [go_sem]
      apply useD
      case hl => exact sideX
      case h => exact make_ok (neg := na) d3 (by omega)
      case hR => exact fun _ _ _ h => h
      rintro v σ4 h4 e4 l4
      have n_e4 := e4.next
      try simp only [add_next, set_next, fresh_next, low_next, lw_next] at n_e4
      rw [sval_sv, val_digits, val_digits, sv_sub hs hle] at h4
      have hc : Sym.look cxH σ4 (σ.next + 2) = some (.row [.bool false, .slice none 0 0] 35) := by simp (disch := first | exact sideD | fail) only [go_sem, e4.look, e3.look, e1.look]
      obtain ⟨b3, n3, c3, rfl, h4, h5⟩ := isInt_put (σ0 := σ) h4 hc (((e0.trans e1).trans e3).trans e4) (by omega)
      simp (disch := first | exact sideD | fail) only [go_sem, hc, st_35, lo_35]
      exact ⟨h4, h5⟩
    · have t2 : (0 ≤ cmp (val la) (val lb)) = False := eq_false (fun h => hle (cmp_ge.1 h))
      simp (disch := first | exact sideD | fail) only [go_sem, t2, fa_35_0, fa_35_1, lo_4_0, lo_33_1]
      apply useD
      case hl => exact sideX
      case h => exact trim_ok' ha' (by omega)
      case hR => exact fun _ _ _ h => h
      rintro _ σ1 ⟨m1, rfl, d1⟩ e1 l1
      have n_e1 := e1.next
      try simp only [add_next, set_next, fresh_next, low_next, lw_next] at n_e1
      have hb'' := hb'.ext e1
      simp (disch := first | exact sideD | fail) only [go_sem]
      apply useD
      case hl => exact sideX
      case h => exact rSub_ok hb'' d1 (by omega) (by rw [val_digits]; omega)
      case hR => exact fun _ _ _ h => h
      rintro _ σ3 ⟨b4, m4, c4, rfl, d3⟩ e3 l3
      have n_e3 := e3.next
      try simp only [add_next, set_next, fresh_next, low_next, lw_next] at n_e3
      have hm := d3.len
      have hk : (digits (val lb - val (digits (val la)))).length ≤ mb := digits_length (Nat.lt_of_le_of_lt (Nat.sub_le _ _) (by rw [hl2]; exact val_lt hb.lt))
      simp (disch := first | exact sideD | fail) only [go_sem]
      apply useD
      case hl => exact sideX
      case h => exact make_ok (neg := nb) d3 (by omega)
      case hR => exact fun _ _ _ h => h
      rintro v σ4 h4 e4 l4
      have n_e4 := e4.next
      try simp only [add_next, set_next, fresh_next, low_next, lw_next] at n_e4
      rw [sval_sv, val_digits, val_digits, sv_sub' hs (by omega)] at h4
      have hc : Sym.look cxH σ4 (σ.next + 2) = some (.row [.bool false, .slice none 0 0] 35) := by simp (disch := first | exact sideD | fail) only [go_sem, e4.look, e3.look, e1.look]
      obtain ⟨b3, n3, c3, rfl, h4, h5⟩ := isInt_put (σ0 := σ) h4 hc (((e0.trans e1).trans e3).trans e4) (by omega)
      simp (disch := first | exact sideD | fail) only [go_sem, hc, st_35, lo_35]
      exact ⟨h4, h5⟩
end
section
theorem getD_some {l : List Nat} {i : Nat} (h : i < l.length) : l[i]? = some (l.getD i 0) := by
  rw [List.getD_eq_getElem?_getD, List.getElem?_eq_getElem h]; rfl
theorem getD_set_ne {l : List Nat} {i j y : Nat} (h : i ≠ j) : (l.set i y).getD j 0 = l.getD j 0 := by
  rw [List.getD_eq_getElem?_getD, List.getD_eq_getElem?_getD, List.getElem?_set_ne h]
theorem mul_small {x y : Nat} (hx : x < B) (hy : y < B) : x * y ≤ 18446744065119617025 := by
  simp only [B] at hx hy
  have := Nat.mul_le_mul (show x ≤ 4294967295 by omega) (show y ≤ 4294967295 by omega)
  omega
theorem getD_rep {m j : Nat} : (List.replicate m 0).getD j 0 = 0 := by
  rw [List.getD_eq_getElem?_getD, List.getElem?_replicate]
  split <;> rfl
theorem mul_step {o lb : List Nat} {i k cr x R t : Nat} (hi : i + k < o.length) (h : val o + B ^ (i + k) * cr = R + B ^ i * (x * val (lb.take k))) (ht : t = cr + x * lb.getD k 0 + o.getD (i + k) 0) :
    val (o.set (i + k) (t % B)) + B ^ (i + (k + 1)) * (t / B) = R + B ^ i * (x * val (lb.take (k + 1))) := by
  have h1 := val_set o (i + k) (t % B) _ (getD_some hi)
  have h2 : B ^ (i + (k + 1)) * (t / B) = B ^ (i + k) * (B * (t / B)) := by
    rw [← Nat.add_assoc, Nat.pow_succ, Nat.mul_assoc]
  have h3 : B ^ (i + k) * (t % B) + B ^ (i + k) * (B * (t / B)) = B ^ (i + k) * t := by rw [← Nat.mul_add, Nat.mod_add_div]
  have h4 : B ^ (i + k) * t = B ^ (i + k) * cr + B ^ (i + k) * (x * lb.getD k 0) + B ^ (i + k) * o.getD (i + k) 0 := by rw [ht, Nat.mul_add, Nat.mul_add]
  have h5 : B ^ i * (x * val (lb.take (k + 1))) = B ^ i * (x * val (lb.take k)) + B ^ (i + k) * (x * lb.getD k 0) := by
    rw [val_take_getD, Nat.mul_add, Nat.mul_add, Nat.pow_add]
    congr 1
    rw [Nat.mul_assoc (B ^ i)]
    congr 1
    rw [← Nat.mul_assoc, Nat.mul_comm x, Nat.mul_assoc]
  omega
theorem mul_last {o la lb : List Nat} {i n cr : Nat} (hi : i + n < o.length) (h : val o + B ^ (i + n) * cr = val (la.take i) * val lb + B ^ i * (la.getD i 0 * val (lb.take n))) (hn : n = lb.length) (hz : o.getD (i + n) 0 = 0) :
    val (o.set (i + n) cr) = val (la.take (i + 1)) * val lb := by
  have h1 := val_set o (i + n) cr _ (getD_some hi)
  rw [hz, Nat.mul_zero, Nat.add_zero] at h1
  rw [List.take_of_length_le (l := lb) (by omega)] at h
  rw [h1, h, val_take_getD, Nat.add_mul, Nat.mul_assoc]
theorem times_ok {σ : St} {b b' : Option Addr} {n c n' c' : Nat} {la lb : List Nat} (h : Dg cxH σ b n c la) (h2 : Dg cxH σ b' n' c' lb) (hn : n ≤ 500000) (hn' : n' ≤ 500000) :
    C cxH 147 [.slice b n c, .slice b' n' c'] σ fun v σ' => (∃ a k l, v = .slice a (n + n') k ∧ Dg cxH σ' a (n + n') k l ∧ val l = val la * val lb) ∧ Ext' σ σ' := by
  have hl := h.len
  have hl2 := h2.len
  refine C_in (N := 66) (rs := [.tmp 4]) fn_147 (by rfl) (by rfl) (by rfl) (by rfl) (by rfl) (by rfl) ?_
  simp (disch := first | exact sideD | fail) only [go_sem, wi_add, mk_33]
  refine Wloop_inv (fun m g σ' => ∃ (i : Nat) (o : List Nat), m = n - i ∧ i ≤ n ∧ g 1 = .slice b' n' c' ∧ g 5 = .slice (some ⟨σ.next, 0, none⟩) (n + n') (n + n') ∧ g 17 = .slice b n c ∧ g 18 = .int .i64 (n : Int) ∧
      g 19 = .int .i64 (i : Int) ∧ Sym.look cxH σ' σ.next = some (.row (o.map dig) 136) ∧ o.length = n + n' ∧ (∀ x ∈ o, x < B) ∧ Ext' σ.fresh σ' ∧ σ.next < σ'.next ∧ (∀ j, i + n' ≤ j → o.getD j 0 = 0) ∧ val o = val (la.take i) * val lb) n (by rfl)
    ⟨0, List.replicate (n + n') 0, rfl, Nat.zero_le _, by simp (disch := first | exact sideD | fail) only [go_sem], by simp (disch := first | exact sideD | fail) only [go_sem], by simp (disch := first | exact sideD | fail) only [go_sem], by simp (disch := first | exact sideD | fail) only [go_sem], by simp (disch := first | exact sideD | fail) only [go_sem]; rfl, by simp (disch := first | exact sideD | fail) only [go_sem], by simp, lt_rep, (Ext'.refl _).add _, by simp (disch := first | exact sideD | fail) only [go_sem]; exact Nat.lt_succ_self _, fun j _ => getD_rep, by rw [val_zeros]; simp [val]⟩ ?_
  rintro m g σ' ⟨i, o, rfl, hi, g1, g5, g17, g18, g19, hc, ho, hoB, E, hp, hz, hval⟩
  have d1 := (h.ext (Ext'.to_fresh σ)).ext E
  by_cases hin : i = n
  · subst hin
    have e : ((i : Int) < (i : Int)) = False := eq_false (by omega)
    simp (disch := first | exact sideD | fail) only [go_sem, g1, g5, g17, g18, g19, e]
    rw [List.take_of_length_le (by omega)] at hval
    exact ⟨⟨_, _, o, rfl, dg_back2 (dg_own (e := 136) hc hoB ho.symm hp (small_cap (by omega))) rfl, hval⟩, back_ext E⟩
  · have e : ((i : Int) < (n : Int)) = True := eq_true (by omega)
    have hxB : la.getD i 0 < B := lt_getD h.lt
    simp (disch := first | exact sideD | fail) only [go_sem, g1, g5, g17, g18, g19, e, ia_33 d1, ld_136' d1]
    refine Wloop_inv (fun m2 g σ' => ∃ (k cr : Nat) (o : List Nat), m2 = n' - k ∧ k ≤ n' ∧ cr < B ∧ g 1 = .slice b' n' c' ∧ g 5 = .slice (some ⟨σ.next, 0, none⟩) (n + n') (n + n') ∧ g 6 = .int .i64 (i : Int) ∧ g 7 = .int .u32 ((la.getD i 0 : Nat) : Int) ∧ g 8 = .int .u64 (cr : Int) ∧
        g 17 = .slice b n c ∧ g 18 = .int .i64 (n : Int) ∧ g 19 = .int .i64 (i : Int) ∧ g 24 = .slice b' n' c' ∧ g 25 = .int .i64 (n' : Int) ∧ g 26 = .int .i64 (k : Int) ∧ Sym.look cxH σ' σ.next = some (.row (o.map dig) 136) ∧ o.length = n + n' ∧ (∀ x ∈ o, x < B) ∧
        Ext' σ.fresh σ' ∧ σ.next < σ'.next ∧ (∀ j, i + n' ≤ j → o.getD j 0 = 0) ∧ val o + B ^ (i + k) * cr = val (la.take i) * val lb + B ^ i * (la.getD i 0 * val (lb.take k))) n' (by rfl)
      ⟨0, 0, o, rfl, Nat.zero_le _, B_pos, by simp (disch := first | exact sideD | fail) only [go_sem, g1], by simp (disch := first | exact sideD | fail) only [go_sem, g5], by simp (disch := first | exact sideD | fail) only [go_sem], by simp (disch := first | exact sideD | fail) only [go_sem], by simp (disch := first | exact sideD | fail) only [go_sem]; rfl, by simp (disch := first | exact sideD | fail) only [go_sem, g17], by simp (disch := first | exact sideD | fail) only [go_sem, g18], by simp (disch := first | exact sideD | fail) only [go_sem, g19], by simp (disch := first | exact sideD | fail) only [go_sem], by simp (disch := first | exact sideD | fail) only [go_sem], by simp (disch := first | exact sideD | fail) only [go_sem]; rfl, hc, ho, hoB, E, hp, hz, by rw [hval]; simp [val]⟩ ?_
    clear hc ho hoB E hp hz hval d1 g1 g5 g17 g18 g19
    rintro m2 g σ' ⟨k, cr, o, rfl, hk, hcr, g1, g5, g6, g7, g8, g17, g18, g19, g24, g25, g26, hc, ho, hoB, E, hp, hz, hval⟩
    have d2 := (h2.ext (Ext'.to_fresh σ)).ext E
    by_cases hkn : k = n'
    · subst hkn
      have e2 : ((k : Int) < (k : Int)) = False := eq_false (by omega)
      have w1 : IntKind.u32.wrap (cr : Int) = (cr : Int) := wu32_nat hcr
      simp (disch := first | exact sideD | fail) only [go_sem, g1, g5, g6, g7, g8, g17, g18, g19, g24, g25, g26, e2, wi_add, w1, ia_own, hc, st_136, wi_succ]
      refine ⟨n - (i + 1), by omega, i + 1, _, rfl, by omega, trivial, trivial, trivial, trivial, rfl, rfl, by rw [List.length_set, ho], lt_set hoB hcr, E.set _ (Nat.le_refl _), hp, fun j hj => ?_, mul_last (by omega) hval hl2 (hz _ (Nat.le_refl _))⟩
      rw [getD_set_ne (by omega)]
      exact hz j (by omega)
    · have e2 : ((k : Int) < (n' : Int)) = True := eq_true (by omega)
      have hyB : lb.getD k 0 < B := lt_getD h2.lt
      have hwB : o.getD (i + k) 0 < B := lt_getD hoB
      have hxy := mul_small hxB hyB
      have st := mul_step (t := cr + (la.getD i 0 * lb.getD k 0 + o.getD (i + k) 0)) (by omega) hval (by omega)
      have hw := getD_some (l := o) (i := i + k) (by omega)
      have hq : (cr + (la.getD i 0 * lb.getD k 0 + o.getD (i + k) 0)) / B < B := by
        simp only [B] at *
        omega
      simp only [B] at hcr hxB hyB hwB
      simp (disch := first | exact sideD | fail) only [go_sem, g1, g5, g6, g7, g8, g17, g18, g19, g24, g25, g26, e2, ia_33 d2, ld_136' d2, wu_nat, wu_mul, wi_add, ia_own, hc, lo_136 hw, wu_add, wr32, st_136, shr32, wi_succ]
      refine ⟨n' - (k + 1), by omega, k + 1, _, _, rfl, by omega, hq, trivial, trivial, trivial, trivial, rfl, trivial, trivial, trivial, trivial, trivial, rfl, rfl, by rw [List.length_set, ho], lt_set hoB (Nat.mod_lt _ B_pos), E.set _ (Nat.le_refl _), hp, fun j hj => ?_, st⟩
      rw [getD_set_ne (by omega)]
      exact hz j hj
theorem rMul_ok {σ : St} {b b' : Option Addr} {n c n' c' : Nat} {la lb : List Nat} (h : Dg cxH σ b n c la) (h2 : Dg cxH σ b' n' c' lb) (hn : n ≤ 500000) (hn' : n' ≤ 500000) :
    C cxH 152 [.slice b n c, .slice b' n' c'] σ fun v σ' => (∃ a m k, v = .slice a m k ∧ Dg cxH σ' a m k (digits (val la * val lb))) ∧ Ext' σ σ' := by
  have hl := h.len
  have hl2 := h2.len
  refine C_in (N := 67) (rs := [.tmp 4]) fn_152 (by rfl) (by rfl) (by rfl) (by rfl) (by rfl) (by rfl) ?_
  simp (disch := first | exact sideD | fail) only [go_sem, wi_add, mk_33]
  refine Wloop_inv (fun m g σ' => ∃ (i : Nat) (o : List Nat), m = n - i ∧ i ≤ n ∧ g 0 = .slice b n c ∧ g 1 = .slice b' n' c' ∧ g 5 = .slice (some ⟨σ.next, 0, none⟩) (n + n') (n + n') ∧
      g 6 = .int .i64 (i : Int) ∧ Sym.look cxH σ' σ.next = some (.row (o.map dig) 136) ∧ o.length = n + n' ∧ (∀ x ∈ o, x < B) ∧ Ext' σ.fresh σ' ∧ σ.next < σ'.next ∧ (∀ j, i + n' ≤ j → o.getD j 0 = 0) ∧ val o = val (la.take i) * val lb) n (by rfl)
    ⟨0, List.replicate (n + n') 0, rfl, Nat.zero_le _, by simp (disch := first | exact sideD | fail) only [go_sem], by simp (disch := first | exact sideD | fail) only [go_sem], by simp (disch := first | exact sideD | fail) only [go_sem], by simp (disch := first | exact sideD | fail) only [go_sem]; rfl, by simp (disch := first | exact sideD | fail) only [go_sem], by simp, lt_rep, (Ext'.refl _).add _, by simp (disch := first | exact sideD | fail) only [go_sem]; exact Nat.lt_succ_self _, fun j _ => getD_rep, by rw [val_zeros]; simp [val]⟩ ?_
  rintro m g σ' ⟨i, o, rfl, hi, g0, g1, g5, g6, hc, ho, hoB, E, hp, hz, hval⟩
  have hlow := E.fresh_le
  by_cases hin : i = n
  · subst hin
    have e : ((i : Int) < (i : Int)) = False := eq_false (by omega)
    simp (disch := first | exact sideD | fail) only [go_sem, g0, g1, g5, g6, e]
    rw [List.take_of_length_le (by omega)] at hval
    have d3 : Dg cxH σ' (some ⟨σ.next, 0, none⟩) (i + n') (i + n') o := dg_own (e := 136) hc hoB ho.symm hp (small_cap (by omega))
    apply use
    case hl => exact sideX
    case h => exact trim_ok' d3 (by omega)
    rintro _ σ1 ⟨m, rfl, d4⟩ e1 l1
    have n_e1 := e1.next
    try simp only [add_next, set_next, fresh_next, low_next, lw_next] at n_e1
    simp (disch := first | exact sideD | fail) only [go_sem]
    rw [hval] at d4
    exact ⟨⟨_, _, _, rfl, dg_back2 d4 rfl⟩, back_ext (E.trans e1)⟩
  · have e : ((i : Int) < (n : Int)) = True := eq_true (by omega)
    have hxB : la.getD i 0 < B := lt_getD h.lt
    simp (disch := first | exact sideD | fail) only [go_sem, g0, g1, g5, g6, e]
    refine Wloop_inv (fun m2 g σ' => ∃ (k cr : Nat) (o : List Nat), m2 = n' - k ∧ k ≤ n' ∧ cr < B ∧ g 0 = .slice b n c ∧ g 1 = .slice b' n' c' ∧ g 5 = .slice (some ⟨σ.next, 0, none⟩) (n + n') (n + n') ∧ g 6 = .int .i64 (i : Int) ∧ g 7 = .int .u64 (cr : Int) ∧
        g 8 = .int .i64 (k : Int) ∧ Sym.look cxH σ' σ.next = some (.row (o.map dig) 136) ∧ o.length = n + n' ∧ (∀ x ∈ o, x < B) ∧
        Ext' σ.fresh σ' ∧ σ.next < σ'.next ∧ (∀ j, i + n' ≤ j → o.getD j 0 = 0) ∧ val o + B ^ (i + k) * cr = val (la.take i) * val lb + B ^ i * (la.getD i 0 * val (lb.take k))) n' (by rfl)
      ⟨0, 0, o, rfl, Nat.zero_le _, B_pos, by simp (disch := first | exact sideD | fail) only [go_sem, g0], by simp (disch := first | exact sideD | fail) only [go_sem, g1], by simp (disch := first | exact sideD | fail) only [go_sem, g5], by simp (disch := first | exact sideD | fail) only [go_sem, g6], by simp (disch := first | exact sideD | fail) only [go_sem]; rfl, by simp (disch := first | exact sideD | fail) only [go_sem]; rfl, hc, ho, hoB, E, hp, hz, by rw [hval]; simp [val]⟩ ?_
    clear hc ho hoB E hp hz hval g0 g1 g5 g6 hlow
    rintro m2 g σ' ⟨k, cr, o, rfl, hk, hcr, g0, g1, g5, g6, g7, g8, hc, ho, hoB, E, hp, hz, hval⟩
    have d1 := (h.ext (Ext'.to_fresh σ)).ext E
    have d2 := (h2.ext (Ext'.to_fresh σ)).ext E
    have hlow := E.fresh_le
    by_cases hkn : k = n'
    · subst hkn
      have e2 : ((k : Int) < (k : Int)) = False := eq_false (by omega)
      have w1 : IntKind.u32.wrap (cr : Int) = (cr : Int) := wu32_nat hcr
      simp (disch := first | exact sideD | fail) only [go_sem, g0, g1, g5, g6, g7, g8, e2, wi_add, w1, ia_own, hc, st_136, wi_succ]
      refine ⟨n - (i + 1), by omega, i + 1, _, rfl, by omega, trivial, trivial, trivial, rfl, rfl, by rw [List.length_set, ho], lt_set hoB hcr, E.set _ (Nat.le_refl _), hp, fun j hj => ?_, mul_last (by omega) hval hl2 (hz _ (Nat.le_refl _))⟩
      rw [getD_set_ne (by omega)]
      exact hz j (by omega)
    · have e2 : ((k : Int) < (n' : Int)) = True := eq_true (by omega)
      have hyB : lb.getD k 0 < B := lt_getD h2.lt
      have hwB : o.getD (i + k) 0 < B := lt_getD hoB
      have hxy := mul_small hxB hyB
      have st := mul_step (t := cr + o.getD (i + k) 0 + la.getD i 0 * lb.getD k 0) (by omega) hval (by omega)
      have hw := getD_some (l := o) (i := i + k) (by omega)
      have hq : (cr + o.getD (i + k) 0 + la.getD i 0 * lb.getD k 0) / B < B := by
        simp only [B] at *
        omega
      simp only [B] at hcr hxB hyB hwB
      simp (disch := first | exact sideD | fail) only [go_sem, g0, g1, g5, g6, g7, g8, e2, ia_33 d1, ld_136' d1, ia_33 d2, ld_136' d2, wu_nat, wu_mul, wi_add, ia_own, hc, lo_136 hw, wu_add, wr32, st_136, shr32, wi_succ]
      refine ⟨n' - (k + 1), by omega, k + 1, _, _, rfl, by omega, hq, trivial, trivial, trivial, trivial, rfl, rfl, rfl, by rw [List.length_set, ho], lt_set hoB (Nat.mod_lt _ B_pos), E.set _ (Nat.le_refl _), hp, fun j hj => ?_, st⟩
      rw [getD_set_ne (by omega)]
      exact hz j hj
end
section
theorem sv_mul {a b : Bool} {m n : Nat} : sv (a != b) (m * n) = sv a m * sv b n := by cases a <;> cases b <;> simp [sv, Int.mul_neg, Int.neg_mul, Int.neg_neg]
theorem mul_ok {σ : St} {v w : Value} {x y : Int} (h : GInt σ v x) (h2 : GInt σ w y) : C cxH 96 [v, w] σ fun v σ' => IsInt σ' v (x * y) ∧ Ext' σ σ' := by
  obtain ⟨na, ba, ma, ca, la, rfl, ha, hna, rfl⟩ := h
  obtain ⟨nb, bb, mb, cb, lb, rfl, hb, hnb, rfl⟩ := h2
  have hla := digits_len_le ha.lt
  have hlb := digits_len_le hb.lt
  have hl1 := ha.len
  have hl2 := hb.len
  rw [sval_sv, sval_sv]
  refine C_in (N := 16) (rs := [.cell 4 35]) fn_96 (by rfl) (by rfl) (by rfl) (by rfl) (by rfl) (by rfl) ?_
  have e0 : Ext' σ.fresh (((σ.fresh.add (.row [.bool na, .slice ba ma ca] 35)).add (.row [.bool nb, .slice bb mb cb] 35)).add (.row [.bool false, .slice none 0 0] 35)) := (((Ext'.refl _).add _).add _).add _
  have ha' := (ha.ext (Ext'.to_fresh σ)).ext e0
  have hb' := (hb.ext (Ext'.to_fresh σ)).ext e0
  simp (disch := first | exact sideD | fail) only [go_sem, al_35, lo_35, fa_35_0, lo_4_0]
  apply useD
  case hl => exact sideX
  case h => exact mag_ok ha' (by omega)
  case hR => exact fun _ _ _ h => h
  rintro _ σ1 ⟨m1, rfl, d1⟩ e1 l1
  have n_e1 := e1.next
  try simp only [add_next, set_next, fresh_next, low_next, lw_next] at n_e1
  have hb'' := hb'.ext e1
  simp (disch := first | exact sideD | fail) only [go_sem, e1.look, lo_35]
  apply useD
  case hl => exact sideX
  case h => exact mag_ok hb'' (by omega)
  case hR => exact fun _ _ _ h => h
  rintro _ σ2 ⟨m2, rfl, d2⟩ e2 l2
  have n_e2 := e2.next
  try simp only [add_next, set_next, fresh_next, low_next, lw_next] at n_e2
  replace d1 := d1.ext e2
  have hm1 := d1.len
  have hm2 := d2.len
  simp (disch := first | exact sideD | fail) only [go_sem]
  apply useD
  case hl => exact sideX
  case h => exact times_ok d1 d2 (by omega) (by omega)
  case hR => exact fun _ _ _ h => h
  rintro _ σ3 ⟨b4, c4, l4, rfl, d3, hv4⟩ e3 l3
  have n_e3 := e3.next
  try simp only [add_next, set_next, fresh_next, low_next, lw_next] at n_e3
  simp (disch := first | exact sideD | fail) only [go_sem]
  apply useD
  case hl => exact sideX
  case h => exact canonical_ok (neg := na != nb) d3 (by omega)
  case hR => exact fun _ _ _ h => h
  rintro v σ4 h4 e4 l4
  have n_e4 := e4.next
  try simp only [add_next, set_next, fresh_next, low_next, lw_next] at n_e4
  rw [sval_sv, hv4, val_digits, val_digits, sv_mul] at h4
  have hc : Sym.look cxH σ4 (σ.next + 2) = some (.row [.bool false, .slice none 0 0] 35) := by simp (disch := first | exact sideD | fail) only [go_sem, e4.look, e3.look, e2.look, e1.look]
  obtain ⟨b3, n3, c3, rfl, h4, h5⟩ := isInt_put (σ0 := σ) h4 hc ((((e0.trans e1).trans e2).trans e3).trans e4) (by omega)
  simp (disch := first | exact sideD | fail) only [go_sem, hc, st_35, lo_35]
  exact ⟨h4, h5⟩
theorem rMulI_ok {σ : St} {v w : Value} {x y : Int} (h : GInt σ v x) (h2 : GInt σ w y) : C cxH 103 [v, w] σ fun v σ' => IsInt σ' v (x * y) ∧ Ext' σ σ' := by
  obtain ⟨na, ba, ma, ca, la, rfl, ha, hna, rfl⟩ := h
  obtain ⟨nb, bb, mb, cb, lb, rfl, hb, hnb, rfl⟩ := h2
  have hl1 := ha.len
  have hl2 := hb.len
  rw [sval_sv, sval_sv]
  refine C_in (N := 16) (rs := [.cell 4 35]) fn_103 (by rfl) (by rfl) (by rfl) (by rfl) (by rfl) (by rfl) ?_
  have e0 : Ext' σ.fresh (((σ.fresh.add (.row [.bool na, .slice ba ma ca] 35)).add (.row [.bool nb, .slice bb mb cb] 35)).add (.row [.bool false, .slice none 0 0] 35)) := (((Ext'.refl _).add _).add _).add _
  have ha' := (ha.ext (Ext'.to_fresh σ)).ext e0
  have hb' := (hb.ext (Ext'.to_fresh σ)).ext e0
  simp (disch := first | exact sideD | fail) only [go_sem, al_35, lo_35, fa_35_0, lo_4_0, fa_35_1, lo_33_1]
  apply useD
  case hl => exact sideX
  case h => exact rMul_ok ha' hb' (by omega) (by omega)
  case hR => exact fun _ _ _ h => h
  rintro _ σ3 ⟨b4, m4, c4, rfl, d3⟩ e3 l3
  have n_e3 := e3.next
  try simp only [add_next, set_next, fresh_next, low_next, lw_next] at n_e3
  have hm := d3.len
  have hk : (digits (val la * val lb)).length ≤ ma + mb := digits_length (by
    rw [Nat.pow_add, hl1, hl2]
    exact Nat.mul_lt_mul_of_lt_of_lt (val_lt ha.lt) (val_lt hb.lt))
  simp (disch := first | exact sideD | fail) only [go_sem]
  apply useD
  case hl => exact sideX
  case h => exact make_ok (neg := na != nb) d3 (by omega)
  case hR => exact fun _ _ _ h => h
  rintro v σ4 h4 e4 l4
  have n_e4 := e4.next
  try simp only [add_next, set_next, fresh_next, low_next, lw_next] at n_e4
  rw [sval_sv, val_digits, sv_mul] at h4
  have hc : Sym.look cxH σ4 (σ.next + 2) = some (.row [.bool false, .slice none 0 0] 35) := by simp (disch := first | exact sideD | fail) only [go_sem, e4.look, e3.look]
  obtain ⟨b3, n3, c3, rfl, h4, h5⟩ := isInt_put (σ0 := σ) h4 hc ((e0.trans e3).trans e4) (by omega)
  simp (disch := first | exact sideD | fail) only [go_sem, hc, st_35, lo_35]
  exact ⟨h4, h5⟩
end
section
def Wix (cx : Ctx) (t : TypeId) (x ix : Value) (K : Value → Prop) : Prop := Wo (opIndex cx t x ix) K
theorem Wop_ix {cx : Ctx} {g : Fm} {σ : St} {K : Value → St → Prop} {ty' t : TypeId} {x ix : Operand} : Wop cx ty' (.index t x ix) g σ K = Wix cx t (ev g x) (ev g ix) fun v => K v σ := Wop_of rfl
theorem Wix_congr {cx : Ctx} {K : Value → Prop} {t : TypeId} {x x' y y' : Value} (h : x = x') (h' : y = y') : Wix cx t x y K = Wix cx t x' y' K := by rw [h, h']
attribute [go_sem ↓] Wop_ix
attribute [local congr] Wix_congr
def Bl (x k : Nat) : Prop := x < 2 ^ k ∧ (x ≠ 0 → 2 ^ k ≤ 2 * x)
theorem Bl.shift {x s k : Nat} (h : Bl (x / 2 ^ s) k) (h0 : x / 2 ^ s ≠ 0) : Bl x (s + k) := by
  obtain ⟨h1, h2⟩ := h
  have hp : 0 < 2 ^ s := Nat.pow_pos (by decide)
  refine ⟨?_, fun _ => ?_⟩
  · rw [Nat.pow_add, Nat.mul_comm]
    exact (Nat.div_lt_iff_lt_mul hp).1 h1
  · rw [Nat.pow_add]
    calc 2 ^ s * 2 ^ k ≤ 2 ^ s * (2 * (x / 2 ^ s)) := Nat.mul_le_mul_left _ (h2 h0)
      _ = 2 * (x / 2 ^ s * 2 ^ s) := by rw [Nat.mul_left_comm, Nat.mul_comm (2 ^ s)]
      _ ≤ 2 * x := Nat.mul_le_mul_left _ (Nat.div_mul_le_self x _)
def tabOk (S : ByteArray) : Bool := (List.range 256).all fun y => match opIndex cxH 9 (.string S) (.int .u8 ((y : Nat) : Int)) with
  | some (.int .u8 (.ofNat k)) => Nat.blt y (2 ^ k) && (Nat.beq y 0 || Nat.ble (2 ^ k) (2 * y)) && Nat.ble k 8
  | _ => false
theorem Wix_tab {S : ByteArray} {y : Nat} {K : Value → Prop} (hS : tabOk S = true) (hy : y < 256) (h : ∀ k : Nat, Bl y k → k ≤ 8 → K (.int .u8 (k : Int))) : Wix cxH 9 (.string S) (.int .u8 (y : Int)) K := by
  have := List.all_eq_true.1 hS y (List.mem_range.2 hy)
  cases ho : opIndex cxH 9 (.string S) (.int .u8 (y : Int)) with
  | none => rw [ho] at this; cases this
  | some v =>
    rw [ho] at this
    split at this
    · rename_i k hk
      injection hk with hk
      subst hk
      simp only [Bool.and_eq_true, Bool.or_eq_true] at this
      obtain ⟨⟨h1, h2⟩, h3⟩ := this
      refine ⟨_, ho, h k ⟨Nat.le_of_ble_eq_true h1, fun h0 => ?_⟩ (Nat.le_of_ble_eq_true h3)⟩
      rcases h2 with h2 | h2
      · exact absurd (Nat.eq_of_beq_eq_true h2) h0
      · exact Nat.le_of_ble_eq_true h2
    · cases this
theorem cv_136_5 {σ : St} {a : Int} {K : Value → St → Prop} : Wconv cxH σ 136 5 (.int .u32 a) K = K (.int .u8 (IntKind.u8.wrap a)) σ := Wconv_of (by kernel_rfl)
theorem cv_5_3 {σ : St} {a : Int} {K : Value → St → Prop} : Wconv cxH σ 5 3 (.int .u8 a) K = K (.int .i64 (IntKind.i64.wrap a)) σ := Wconv_of (by kernel_rfl)
attribute [go_sem ↓] cv_136_5 cv_5_3
theorem wu8 {x : Nat} (h : x < 256) : IntKind.u8.wrap (x : Int) = (x : Int) := by
  unfold IntKind.wrap
  simp [IntKind.bits, IntKind.signed]
  omega
theorem shr32_16 {t : TypeId} {ox oy : Operand} {l : IntKind} {m : Nat} {K : Value → Prop} : Wbin cxH .shr t ox oy (.int .u32 (m : Int)) (.int l 16) K = K (.int .u32 ((m / 2 ^ 16 : Nat) : Int)) := by
  rw [Wbin_shr (by decide)]
  have : (m : Int).fdiv (2 ^ min (Int.toNat 16) IntKind.u32.bits) = ((m / 2 ^ 16 : Nat) : Int) := by
    show (m : Int).fdiv ((2 : Int) ^ 16) = _
    rw [Int.fdiv_eq_ediv_of_nonneg _ (by decide)]
    rfl
  rw [this]
theorem shr32_8 {t : TypeId} {ox oy : Operand} {l : IntKind} {m : Nat} {K : Value → Prop} : Wbin cxH .shr t ox oy (.int .u32 (m : Int)) (.int l 8) K = K (.int .u32 ((m / 2 ^ 8 : Nat) : Int)) := by
  rw [Wbin_shr (by decide)]
  have : (m : Int).fdiv (2 ^ min (Int.toNat 8) IntKind.u32.bits) = ((m / 2 ^ 8 : Nat) : Int) := by
    show (m : Int).fdiv ((2 : Int) ^ 8) = _
    rw [Int.fdiv_eq_ediv_of_nonneg _ (by decide)]
    rfl
  rw [this]
theorem len32_ok {σ : St} {x : Nat} (hx : x < B) : C cxH 286 [.int .u32 (x : Int)] σ fun v σ' => (∃ k : Nat, v = .int .i64 (k : Int) ∧ Bl x k ∧ k ≤ 32) ∧ σ' = σ := by
  simp only [B] at hx
  refine C_in (N := 19) (rs := [.tmp 2]) fn_286 (by rfl) (by rfl) (by rfl) (by rfl) (by rfl) (by rfl) ?_
  simp (disch := first | exact sideD | fail) only [go_sem]
  generalize hQ : seqQ cxH 19 _ _ = Q
  have t1 : ∀ (g : Fm) (y n : Nat), y < 65536 → n ≤ 16 → (∀ k, Bl y k → Bl x (n + k)) → g 0 = .int .u32 (y : Int) → g 2 = .int .i64 (n : Int) → Q .normal g σ.fresh := by
    subst hQ
    intro g y n hy hn hb g0 g2
    simp (disch := first | exact sideD | fail) only [go_sem, g0, g2]
    generalize hQ : seqQ cxH 19 _ _ = Q
    have t2 : ∀ (g : Fm) (z n : Nat), z < 256 → n ≤ 24 → (∀ k, Bl z k → Bl x (n + k)) → g 0 = .int .u32 (z : Int) → g 2 = .int .i64 (n : Int) → Q .normal g σ.fresh := by
      subst hQ
      intro g z n hz hn hb g0 g2
      simp (disch := first | exact sideD | fail) only [go_sem, g0, g2, wu8]
      refine Wix_tab (by kernel_rfl) hz fun k hk hk8 => ?_
      simp (disch := first | exact sideD | fail) only [go_sem, g0, g2, wu8, wi_nat, wi_add]
      exact ⟨⟨n + k, rfl, hb k hk, by omega⟩, back_plain (Ext'.refl _) rfl⟩
    by_cases h : 256 ≤ y
    · have e : ((256 : Int) ≤ (y : Int)) = True := eq_true (by omega)
      have w : IntKind.i64.wrap ((n : Int) + 8) = ((n + 8 : Nat) : Int) := wi_add (j := 8) (by omega)
      simp (disch := first | exact sideD | fail) only [go_sem, g0, g2, e, shr32_8, w]
      refine t2 _ (y / 2 ^ 8) (n + 8) (by omega) (by omega) (fun k hk => ?_) (by simp (disch := first | exact sideD | fail) only [go_sem]) (by simp (disch := first | exact sideD | fail) only [go_sem])
      rw [Nat.add_assoc]
      exact hb _ (hk.shift (by omega))
    · have e : ((256 : Int) ≤ (y : Int)) = False := eq_false (by omega)
      simp (disch := first | exact sideD | fail) only [go_sem, g0, g2, e]
      exact t2 _ y n (by omega) (by omega) hb (by simp (disch := first | exact sideD | fail) only [go_sem, g0]) (by simp (disch := first | exact sideD | fail) only [go_sem, g2])
  by_cases h : 65536 ≤ x
  · have e : ((65536 : Int) ≤ (x : Int)) = True := eq_true (by omega)
    simp (disch := first | exact sideD | fail) only [go_sem, e, shr32_16]
    exact t1 _ (x / 2 ^ 16) 16 (by omega) (by omega) (fun k hk => hk.shift (by omega)) (by simp (disch := first | exact sideD | fail) only [go_sem]) (by simp (disch := first | exact sideD | fail) only [go_sem]; rfl)
  · have e : ((65536 : Int) ≤ (x : Int)) = False := eq_false (by omega)
    simp (disch := first | exact sideD | fail) only [go_sem, e]
    exact t1 _ x 0 (by omega) (by omega) (fun k hk => by rw [Nat.zero_add]; exact hk) (by simp (disch := first | exact sideD | fail) only [go_sem]) (by simp (disch := first | exact sideD | fail) only [go_sem]; rfl)
theorem lz32_ok {σ : St} {x : Nat} (hx : x < B) : C cxH 237 [.int .u32 (x : Int)] σ fun v σ' => (∃ k : Nat, v = .int .i64 ((32 - k : Nat) : Int) ∧ Bl x k ∧ k ≤ 32) ∧ σ' = σ := by
  refine C_in (N := 6) (rs := [.tmp 2]) fn_237 (by rfl) (by rfl) (by rfl) (by rfl) (by rfl) (by rfl) ?_
  simp (disch := first | exact sideD | fail) only [go_sem]
  apply usep
  case h => exact len32_ok hx
  rintro _ ⟨k, rfl, hb, hk⟩
  have w : IntKind.i64.wrap (32 - (k : Int)) = ((32 - k : Nat) : Int) := wr64n (by omega) (by omega)
  simp (disch := first | exact sideD | fail) only [go_sem, w]
  exact ⟨⟨k, rfl, hb, hk⟩, back_plain (Ext'.refl _) rfl⟩
end
section
section
variable {t : TypeId} {ox oy : Operand} {l : IntKind} {a b s : Nat} {K : Value → Prop}
theorem or_u64 (ha : a < 18446744073709551616) (hb : b < 18446744073709551616) : Wbin cxH .or t ox oy (.int .u64 (a : Int)) (.int .u64 (b : Int)) K = K (.int .u64 ((a ||| b : Nat) : Int)) := by
  rw [Wbin_or]
  have : (BitVec.ofInt IntKind.u64.bits (a : Int) ||| BitVec.ofInt IntKind.u64.bits (b : Int)).toNat = a ||| b := by
    show (BitVec.ofInt 64 (a : Int) ||| BitVec.ofInt 64 (b : Int)).toNat = _
    rw [BitVec.toNat_or, BitVec.ofInt_natCast, BitVec.ofInt_natCast, BitVec.toNat_ofNat, BitVec.toNat_ofNat, Nat.mod_eq_of_lt ha, Nat.mod_eq_of_lt hb]
  rw [this, wu_nat (Nat.or_lt_two_pow (n := 64) ha hb)]
theorem or_u32 (ha : a < 4294967296) (hb : b < 4294967296) : Wbin cxH .or t ox oy (.int .u32 (a : Int)) (.int .u32 (b : Int)) K = K (.int .u32 ((a ||| b : Nat) : Int)) := by
  rw [Wbin_or]
  have : (BitVec.ofInt IntKind.u32.bits (a : Int) ||| BitVec.ofInt IntKind.u32.bits (b : Int)).toNat = a ||| b := by
    show (BitVec.ofInt 32 (a : Int) ||| BitVec.ofInt 32 (b : Int)).toNat = _
    rw [BitVec.toNat_or, BitVec.ofInt_natCast, BitVec.ofInt_natCast, BitVec.toNat_ofNat, BitVec.toNat_ofNat, Nat.mod_eq_of_lt ha, Nat.mod_eq_of_lt hb]
  rw [this, wu32_nat (Nat.or_lt_two_pow (n := 32) ha hb)]
theorem shl32 (h : a * 4294967296 < 18446744073709551616) : Wbin cxH .shl t ox oy (.int .u64 (a : Int)) (.int l 32) K = K (.int .u64 ((a * 4294967296 : Nat) : Int)) := by
  rw [Wbin_shl (by decide)]
  have : (a : Int) * 2 ^ min (Int.toNat 32) IntKind.u64.bits = ((a * 4294967296 : Nat) : Int) := by
    show (a : Int) * ((4294967296 : Nat) : Int) = _
    rw [Int.natCast_mul]
  rw [this, wu_nat h]
theorem shl_var (h : s < 64) : Wbin cxH .shl t ox oy (.int .u64 (a : Int)) (.int l (s : Int)) K = K (.int .u64 ((a * 2 ^ s % 18446744073709551616 : Nat) : Int)) := by
  rw [Wbin_shl (by omega)]
  have : (a : Int) * 2 ^ min (Int.toNat (s : Int)) IntKind.u64.bits = ((a * 2 ^ s : Nat) : Int) := by
    rw [Int.toNat_natCast, show min s IntKind.u64.bits = s from Nat.min_eq_left (Nat.le_of_lt h), Int.natCast_mul]
    congr 1
  rw [this, wu64]
  rfl
theorem shr_var (h : s < 64) : Wbin cxH .shr t ox oy (.int .u64 (a : Int)) (.int l (s : Int)) K = K (.int .u64 ((a / 2 ^ s : Nat) : Int)) := by
  rw [Wbin_shr (by omega)]
  have : (a : Int).fdiv (2 ^ min (Int.toNat (s : Int)) IntKind.u64.bits) = ((a / 2 ^ s : Nat) : Int) := by
    rw [Int.toNat_natCast, show min s IntKind.u64.bits = s from Nat.min_eq_left (Nat.le_of_lt h), Int.fdiv_eq_ediv_of_nonneg _ (Int.pow_nonneg (by decide)), Int.natCast_ediv, Int.natCast_pow]
    rfl
  rw [this]
theorem quo_u64 (hb : 0 < b) (ha : a < 18446744073709551616) : Wbin cxH .quo t ox oy (.int .u64 (a : Int)) (.int .u64 (b : Int)) K = K (.int .u64 ((a / b : Nat) : Int)) := by
  rw [Wbin_quo (by omega), ← Int.ofNat_tdiv, wu_nat (Nat.lt_of_le_of_lt (Nat.div_le_self _ _) ha)]
theorem rem_u64 (hb : 0 < b) : Wbin cxH .rem t ox oy (.int .u64 (a : Int)) (.int .u64 (b : Int)) K = K (.int .u64 ((a % b : Nat) : Int)) := by
  rw [Wbin_rem (by omega), ← Int.ofNat_tmod]
end
theorem or_mul {m x s : Nat} (hx : x < 2 ^ s) : 2 ^ s * m ||| x = 2 ^ s * m + x := (Nat.two_pow_add_eq_or_of_lt hx m).symm
theorem or_B {m x : Nat} (hx : x < B) : m * B ||| x = m * B + x := by
  have := or_mul (m := m) (x := x) (s := 32) hx
  rw [Nat.mul_comm m B]
  exact this
def ow (kd : Option Nat) (l : List Nat) : SObj := match kd with
  | none => .row (l.map dig) 136
  | some k => .opn (l.map dig) 136 1 k
structure OwnW (w : Mw) (p n c : Nat) (kd : Option Nat) (l : List Nat) : Prop where
  look : lookW cxH w p = some (ow kd l)
  lt : p < w.next
  len : l.length = n
  dig : ∀ x ∈ l, x < B
  cap : CapW w n c
abbrev Own (σ : St) (p n c : Nat) (kd : Option Nat) (l : List Nat) : Prop := OwnW σ.vw p n c kd l
section
variable {σ σ' : St} {p n c i : Nat} {kd : Option Nat} {l : List Nat}
theorem ow_cells : (ow kd l).cells = l.map dig := by cases kd <;> rfl
theorem OwnW.dg (h : Own σ p n c kd l) : Dg cxH σ (some ⟨p, 0, none⟩) n c l := by
  obtain ⟨h1, h2, h3, h4, h5⟩ := h
  subst h3
  refine ⟨⟨by simp, h5, (fun e => by cases e), fun a ha => ?_⟩, h4⟩
  injection ha with ha
  subst ha
  refine ⟨h2, fun _ => ⟨rfl, _, h1, ?_, ?_⟩⟩
  · rw [ow_cells]
    show 0 + l.length * 1 ≤ (l.map Sym.dig).length
    simp
  · rw [ow_cells]
    show ((l.map Sym.dig).drop 0).take (l.length * 1) = _
    rw [List.drop_zero, List.take_of_length_le (by simp)]
theorem OwnW.ext (h : Own σ p n c kd l) (e : Ext' σ σ') : Own σ' p n c kd l :=
  ⟨(e.look h.lt).trans h.look, Nat.lt_of_lt_of_le h.lt e.next, h.len, h.dig, h.cap.ext e⟩
theorem OwnW.at (h : Own σ p n c kd l) : Sym.look cxH σ p = some (ow kd l) := h.look
theorem OwnW.set {y : Nat} (h : Own σ p n c kd l) (hy : y < B) : Own (σ.set p (ow kd (l.set i y))) p n c kd (l.set i y) :=
  ⟨look_set rfl, h.lt, by rw [List.length_set, h.len], lt_set h.dig hy, h.cap⟩
theorem lo_ow {x : Nat} {K : Value → Prop} (h : l[i]? = some x) : Wo (loadO cxH 136 i (ow kd l)) K = K (.int .u32 (x : Int)) := by
  have : loadO cxH 136 i (ow kd l) = some (.int .u32 (x : Int)) := by
    unfold loadO
    rw [ty_136, ow_cells]
    show (l.map Sym.dig)[i]? = _
    rw [List.getElem?_map, h]
    rfl
  rw [this, Wo_some]
theorem st_ow {y : Nat} {K : Value → St → Prop} (h : i < l.length) : WstO cxH σ 136 p i (some (ow kd l)) (.int .u32 (y : Int)) K = K undef (σ.set p (ow kd (l.set i y))) := by
  cases kd with
  | none => exact st_136 h
  | some k =>
    refine WstO_of ?_
    unfold storeO
    rw [ty_136]
    show putO σ p i [.int .u32 (y : Int)] (.opn (l.map Sym.dig) 136 1 k) = _
    unfold putO
    show cond (Nat.ble (i + 1) (l.map Sym.dig).length) _ _ = _
    rw [Nat.ble_eq_true_of_le (by rw [List.length_map]; omega), splice_one (by rw [List.length_map]; exact h)]
    show some (σ.set p (.opn ((l.map Sym.dig).set i (Sym.dig y)) 136 1 k)) = some (σ.set p (.opn ((l.set i y).map Sym.dig) 136 1 k))
    rw [List.map_set]
theorem own_back {v : Value} (h : Own σ' p n c kd l) (hm : Sym.Mod p σ.fresh σ') (hlow : σ'.low ≤ p) (hp : p < σ.next) : Own (back σ v σ') p n c kd l ∧ Sym.Mod p σ (back σ v σ') := by
  obtain ⟨h1, h2⟩ := back_mod (v := v) hm hlow hp
  refine ⟨?_, h1⟩
  rw [h2]
  exact h
end
theorem own_new {σ : St} {m : Nat} {l : List Nat} (hm : l.length = m) (hl : ∀ x ∈ l, x < B) (hn : m ≤ 1000000) : Own (σ.add (.row (l.map dig) 136)) σ.next m m none l :=
  ⟨look_add rfl, Nat.lt_succ_self _, hm, hl, .inl ⟨small_cap hn, Nat.le_refl _⟩⟩
theorem val_drop_cons {l : List Nat} {i : Nat} (h : i < l.length) : val (l.drop i) = l.getD i 0 + B * val (l.drop (i + 1)) := by
  rw [List.drop_eq_getElem_cons h, val_cons, List.getD_eq_getElem?_getD, List.getElem?_eq_getElem h]
  rfl
theorem drop_set {l : List Nat} {i y : Nat} (h : i < l.length) : (l.set i y).drop i = y :: l.drop (i + 1) := by
  rw [List.drop_eq_getElem_cons (by rw [List.length_set]; exact h), List.getElem_set_self, List.drop_set_of_lt (Nat.lt_succ_self i)]
theorem shrunk_step {o l : List Nat} {i k rest t : Nat} (ho : i < o.length) (hl : i < l.length) (h : val (o.drop (i + 1)) * k + rest = val (l.drop (i + 1))) (ht : t = rest * B + l.getD i 0) :
    val ((o.set i (t / k)).drop i) * k + t % k = val (l.drop i) := by
  rw [drop_set ho, val_cons, val_drop_cons hl, ← h, Nat.add_mul, Nat.mul_add B, Nat.mul_assoc, Nat.mul_comm B rest]
  have := Nat.div_add_mod t k
  rw [Nat.mul_comm] at this
  omega
theorem div_small {rest k x t : Nat} (hr : rest < k) (hx : x < B) (ht : t = rest * B + x) : t / k < B := by
  rw [Nat.div_lt_iff_lt_mul (by omega), ht]
  have : (rest + 1) * B ≤ k * B := Nat.mul_le_mul_right _ hr
  rw [Nat.add_mul, Nat.one_mul] at this
  rw [Nat.mul_comm B k]
  omega
theorem shrunk_ok {σ : St} {p n c k : Nat} {kd : Option Nat} {l : List Nat} (h : Own σ p n c kd l) (hn0 : 0 < n) (hn : n ≤ 1000000) (hk : 0 < k) (hkB : k < B) :
    C cxH 236 [.slice (some ⟨p, 0, none⟩) n c, .int .u32 (k : Int)] σ fun v σ' => v = .int .u32 ((val l % k : Nat) : Int) ∧ (∃ l', Own σ' p n c kd l' ∧ val l' = val l / k) ∧ Sym.Mod p σ σ' := by
  have hl := h.len
  have hkB' := hkB
  simp only [B] at hkB'
  refine C_in (N := 36) (rs := [.tmp 4]) fn_236 (by rfl) (by rfl) (by rfl) (by rfl) (by rfl) (by rfl) ?_
  have w0 : IntKind.i64.wrap ((n : Int) - 1) = (n : Int) - 1 := wr64 (by omega) (by omega)
  simp (disch := first | exact sideD | fail) only [go_sem, w0]
  refine Wloop_inv (fun j g σ' => ∃ (rest : Nat) (o : List Nat), j ≤ n ∧ rest < k ∧ g 0 = .slice (some ⟨p, 0, none⟩) n c ∧ g 1 = .int .u32 (k : Int) ∧ g 5 = .int .u64 (rest : Int) ∧ g 6 = .int .i64 ((j : Int) - 1) ∧ Own σ' p n c kd o ∧ Sym.Mod p σ.fresh σ' ∧ (j < n → σ'.low ≤ p) ∧
      (∀ i, i < j → o.getD i 0 = l.getD i 0) ∧ val (o.drop j) * k + rest = val (l.drop j)) n (by rfl)
    ⟨0, l, Nat.le_refl n, hk, by simp (disch := first | exact sideD | fail) only [go_sem], by simp (disch := first | exact sideD | fail) only [go_sem], by simp (disch := first | exact sideD | fail) only [go_sem]; rfl, by simp (disch := first | exact sideD | fail) only [go_sem], (show Own σ.fresh p n c kd l from h), (Mod.refl : Sym.Mod p σ.fresh σ.fresh), fun h => absurd h (Nat.lt_irrefl _), fun i _ => rfl, by rw [List.drop_of_length_le (by omega)]; simp [val]⟩ ?_
  rintro j g σ' ⟨rest, o, hj, hr, g0, g1, g5, g6, hO, hM, hlow, hsame, hval⟩
  by_cases hj0 : j = 0
  · subst hj0
    have e3 : (0 ≤ ((0 : Nat) : Int) - 1) = False := eq_false (by omega)
    have w1 : IntKind.u32.wrap (rest : Int) = (rest : Int) := wu32_nat (by omega)
    simp (disch := first | exact sideD | fail) only [go_sem, g0, g1, g5, g6, e3, w1]
    rw [List.drop_zero, List.drop_zero] at hval
    have hv : val o = val l / k ∧ rest = val l % k := by
      have h1 : val l / k = val o := Nat.div_eq_of_lt_le (by rw [Nat.mul_comm]; rw [Nat.mul_comm] at hval; omega) (by rw [Nat.succ_mul]; omega)
      have h2 := Nat.div_add_mod (val l) k
      rw [h1, Nat.mul_comm] at h2
      omega
    obtain ⟨h1, h2⟩ := own_back (v := .int .u32 (rest : Int)) hO hM (hlow hn0) h.lt
    exact ⟨by rw [hv.2], ⟨o, h1, hv.1⟩, h2⟩
  · obtain ⟨i, rfl⟩ : ∃ i, j = i + 1 := ⟨j - 1, by omega⟩
    rw [show ((i + 1 : Nat) : Int) - 1 = (i : Int) by omega] at g6
    have e3 : (0 ≤ (i : Int)) = True := eq_true (by omega)
    have e4 : IntKind.i64.wrap ((i : Int) - 1) = (i : Int) - 1 := wr64 (by omega) (by omega)
    have hlo := hO.len
    have hxB : l.getD i 0 < B := lt_getD h.dig
    have hx := getD_some (l := o) (i := i) (by omega)
    rw [hsame i (Nat.lt_succ_self i)] at hx
    have ht : rest * B + l.getD i 0 < 18446744073709551616 := by
      have : (rest + 1) * B ≤ B * B := Nat.mul_le_mul_right _ (by omega)
      rw [Nat.add_mul, Nat.one_mul] at this
      simp only [B] at *
      omega
    have eo := or_B (m := rest) hxB
    have hq := div_small hr hxB rfl
    have w1 : IntKind.u32.wrap (((rest * B + l.getD i 0) / k : Nat) : Int) = (((rest * B + l.getD i 0) / k : Nat) : Int) := wu32_nat hq
    have w2 : IntKind.u64.wrap ((l.getD i 0 : Nat) : Int) = ((l.getD i 0 : Nat) : Int) := wu_nat (by simp only [B] at *; omega)
    have w3 : IntKind.u64.wrap (k : Int) = (k : Int) := wu_nat (by omega)
    have st := shrunk_step (k := k) (by omega) (by omega) hval rfl
    have hq2 := hq
    simp only [B] at ht eo w1 hxB hq2
    have ht2 : rest * 4294967296 < 18446744073709551616 := Nat.lt_of_le_of_lt (Nat.le_add_right _ _) ht
    have ht3 : l.getD i 0 < 18446744073709551616 := by omega
    simp (disch := first | exact sideD | fail) only [go_sem, g0, g1, g5, g6, e3, shl32, ia_own, hO.at, lo_ow hx, w2, or_u64, eo, w3, quo_u64, w1, st_ow, rem_u64, e4]
    refine ⟨i, Nat.lt_succ_self i, _, _, by omega, Nat.mod_lt _ hk, trivial, trivial, rfl, rfl, hO.set hq, hM.set _, fun _ => Nat.min_le_right _ _, fun i' hi' => ?_, st⟩
    rw [getD_set_ne (by omega)]
    exact hsame i' (by omega)
end
section
attribute [local go_sem] wrap_nil
theorem pow_le32 {s : Nat} (hs : s < 32) : 2 ^ s ≤ 2147483648 := by
  have : 2 ^ s ≤ 2 ^ 31 := Nat.pow_le_pow_right (by decide) (by omega)
  exact this
theorem B_pow {s : Nat} (hs : s ≤ 32) : B = 2 ^ s * 2 ^ (32 - s) := by
  rw [← Nat.pow_add, show s + (32 - s) = 32 by omega]
theorem shift_or {x s h : Nat} (hs : s < 32) (hx : x < B) (hh : h < 2 ^ s) : h ||| (x * 2 ^ s) % B = h + (x * 2 ^ s) % B ∧ h + (x * 2 ^ s) % B < B := by
  have h1 : (x * 2 ^ s) % B = 2 ^ s * (x % 2 ^ (32 - s)) := by
    rw [B_pow (Nat.le_of_lt hs), Nat.mul_comm x, Nat.mul_mod_mul_left]
  rw [h1, Nat.or_comm, or_mul hh]
  refine ⟨Nat.add_comm _ _, ?_⟩
  have h2 : x % 2 ^ (32 - s) + 1 ≤ 2 ^ (32 - s) := Nat.mod_lt _ (Nat.pow_pos (by decide))
  have h3 : 2 ^ s * (x % 2 ^ (32 - s) + 1) ≤ 2 ^ s * 2 ^ (32 - s) := Nat.mul_le_mul_left _ h2
  rw [← B_pow (Nat.le_of_lt hs), Nat.mul_add, Nat.mul_one] at h3
  omega
theorem shift_hi {x s : Nat} (hx : x < B) : x * 2 ^ s / B < 2 ^ s := by
  rw [Nat.div_lt_iff_lt_mul B_pos, Nat.mul_comm]
  exact Nat.mul_lt_mul_of_pos_left hx (Nat.pow_pos (by decide))
theorem getD_set_self {l : List Nat} {i y : Nat} (h : i < l.length) : (l.set i y).getD i 0 = y := by
  rw [List.getD_eq_getElem?_getD, List.getElem?_set_self h]; rfl
theorem shift_step {o l : List Nat} {i s : Nat} (hi : i + 1 < o.length) (h : val (o.take i) + B ^ i * o.getD i 0 = val (l.take i) * 2 ^ s) :
    val (((o.set i (o.getD i 0 + (l.getD i 0 * 2 ^ s) % B)).set (i + 1) (l.getD i 0 * 2 ^ s / B)).take (i + 1)) + B ^ (i + 1) * (l.getD i 0 * 2 ^ s / B) = val (l.take (i + 1)) * 2 ^ s := by
  rw [List.take_set_of_le (Nat.le_refl _), val_take_set (by omega), val_take_getD, Nat.add_mul, ← h, Nat.mul_add, Nat.pow_succ]
  have h2 : B ^ i * (l.getD i 0 * 2 ^ s % B) + B ^ i * B * (l.getD i 0 * 2 ^ s / B) = B ^ i * l.getD i 0 * 2 ^ s := by
    rw [Nat.mul_assoc, ← Nat.mul_add, Nat.mod_add_div, Nat.mul_assoc]
  omega
theorem shifted_ok {σ : St} {b : Option Addr} {n c s : Nat} {l : List Nat} (h : Dg cxH σ b n c l) (hn : n ≤ 500000) (hs : s < 32) :
    C cxH 238 [.slice b n c, .int .i64 (s : Int)] σ fun v σ' => (∃ p o, v = .slice (some ⟨p, 0, none⟩) (n + 1) (n + 1) ∧ σ.next ≤ p ∧ Own σ' p (n + 1) (n + 1) none o ∧ val o = val l * 2 ^ s) ∧ Ext' σ σ' := by
  have hl := h.len
  have hp2 := pow_le32 hs
  refine C_in (N := 41) (rs := [.tmp 4]) fn_238 (by rfl) (by rfl) (by rfl) (by rfl) (by rfl) (by rfl) ?_
  simp (disch := first | exact sideD | fail) only [go_sem, wi_succ, mk_33]
  refine Wloop_inv (fun m g σ' => ∃ (i : Nat) (o : List Nat), m = n - i ∧ i ≤ n ∧ g 1 = .int .i64 (s : Int) ∧ g 5 = .slice (some ⟨σ.next, 0, none⟩) (n + 1) (n + 1) ∧ g 13 = .slice b n c ∧ g 14 = .int .i64 (n : Int) ∧
      g 15 = .int .i64 (i : Int) ∧ Own σ' σ.next (n + 1) (n + 1) none o ∧ Ext' σ.fresh σ' ∧ (∀ j, i < j → o.getD j 0 = 0) ∧ o.getD i 0 < 2 ^ s ∧ val (o.take i) + B ^ i * o.getD i 0 = val (l.take i) * 2 ^ s) n (by rfl)
    ⟨0, List.replicate (n + 1) 0, rfl, Nat.zero_le _, by simp (disch := first | exact sideD | fail) only [go_sem], by simp (disch := first | exact sideD | fail) only [go_sem], by simp (disch := first | exact sideD | fail) only [go_sem], by simp (disch := first | exact sideD | fail) only [go_sem], by simp (disch := first | exact sideD | fail) only [go_sem]; rfl, own_new (σ := σ.fresh) (by simp) lt_rep (by omega), (Ext'.refl _).add _, fun j _ => getD_rep, by rw [getD_rep]; exact Nat.pow_pos (by decide), by rw [getD_rep]; simp [val]⟩ ?_
  rintro m g σ' ⟨i, o, rfl, hi, g1, g5, g13, g14, g15, hO, E, hz, hd, hval⟩
  have d1 := (h.ext (Ext'.to_fresh σ)).ext E
  have ho := hO.len
  by_cases hin : i = n
  · subst hin
    have e : ((i : Int) < (i : Int)) = False := eq_false (by omega)
    simp (disch := first | exact sideD | fail) only [go_sem, g1, g5, g13, g14, g15, e]
    have hv : val o = val l * 2 ^ s := by
      have h1 := val_take_getD o i
      rw [List.take_of_length_le (by omega)] at h1
      rw [h1, hval, List.take_of_length_le (by omega)]
    refine ⟨⟨_, o, rfl, Nat.le_refl _, ?_, hv⟩, back_ext E⟩
    have : plain (.slice (some ⟨σ.next, 0, none⟩) (i + 1) (i + 1)) = false := rfl
    rw [back_look (cx := cxH) this]
    exact hO
  · have e : ((i : Int) < (n : Int)) = True := eq_true (by omega)
    have hxB : l.getD i 0 < B := lt_getD h.lt
    obtain ⟨eo, ho2⟩ := shift_or hs hxB hd
    have hhi := shift_hi (s := s) hxB
    have st := shift_step (l := l) (by omega) hval
    have hx := getD_some (l := o) (i := i) (by omega)
    have hxs : l.getD i 0 * 2 ^ s < 18446744073709551616 := by
      have h1 : l.getD i 0 * 2 ^ s ≤ 4294967295 * 2147483648 := Nat.mul_le_mul (by simp only [B] at hxB; omega) hp2
      omega
    have w0 : l.getD i 0 * 2 ^ s % 18446744073709551616 = l.getD i 0 * 2 ^ s := Nat.mod_eq_of_lt hxs
    have hl2 : l.getD i 0 * 2 ^ s % B < B := Nat.mod_lt _ B_pos
    have hdB : o.getD i 0 < B := Nat.lt_of_lt_of_le hd (by simp only [B]; omega)
    have hhB : l.getD i 0 * 2 ^ s / B < B := Nat.lt_of_lt_of_le hhi (by simp only [B]; omega)
    have w1 : IntKind.u32.wrap ((l.getD i 0 * 2 ^ s / B : Nat) : Int) = ((l.getD i 0 * 2 ^ s / B : Nat) : Int) := wu32_nat hhB
    have hO1 : Own (σ'.set σ.next (ow none (o.set i (o.getD i 0 + l.getD i 0 * 2 ^ s % B)))) σ.next (n + 1) (n + 1) none _ := hO.set ho2
    have hO2 := hO1.set (i := i + 1) hhB
    have w2 : IntKind.u64.wrap ((l.getD i 0 : Nat) : Int) = ((l.getD i 0 : Nat) : Int) := wu_nat (by simp only [B] at hxB; omega)
    have hlen1 : (o.set i (o.getD i 0 + l.getD i 0 * 2 ^ s % B)).length = n + 1 := by rw [List.length_set, ho]
    simp (disch := first | exact sideD | fail) only [go_sem, g1, g5, g13, g14, g15, e, ia_33 d1, ld_136' d1, w2, shl_var, w0, ia_own, hO.at, lo_ow hx, wr32, or_u32, eo, st_ow, shr32, w1, hO1.at, wi_succ]
    refine ⟨n - (i + 1), by omega, i + 1, _, rfl, by omega, trivial, trivial, trivial, trivial, rfl, hO2, (E.set _ (Nat.le_refl _)).set _ (Nat.le_refl _), fun j hj => ?_, ?_, ?_⟩
    · rw [getD_set_ne (by omega), getD_set_ne (by omega)]
      exact hz j (by omega)
    · rw [getD_set_self (by omega)]
      exact hhi
    · rw [getD_set_self (by omega)]
      exact st
end
section
attribute [local go_sem] wrap_nil
attribute [go_sem ↓] blockQ_ne
attribute [go_sem] Bool.false_or Bool.true_or Bool.or_false Bool.or_true
theorem unshift_digit {x z Z s : Nat} (hs : s < 32) (hx : x < B) : (x + B * (z + B * Z)) / 2 ^ s = (x + z * B) / 2 ^ s % B + B * ((z + B * Z) / 2 ^ s) := by
  have hp : 0 < 2 ^ s := Nat.pow_pos (by decide)
  have h1 : (x + B * (z + B * Z)) / 2 ^ s / B = (z + B * Z) / 2 ^ s := by
    rw [Nat.div_div_eq_div_mul, Nat.mul_comm (2 ^ s) B, ← Nat.div_div_eq_div_mul, Nat.add_mul_div_left _ _ B_pos, Nat.div_eq_of_lt hx, Nat.zero_add]
  have h2 : (x + B * (z + B * Z)) / 2 ^ s % B = (x + z * B) / 2 ^ s % B := by
    have e : x + B * (z + B * Z) = (x + z * B) + 2 ^ s * (B * (2 ^ (32 - s) * Z)) := by
      have e1 : B * Z = 2 ^ s * (2 ^ (32 - s) * Z) := by rw [← Nat.mul_assoc, ← B_pow (Nat.le_of_lt hs)]
      have : B * (B * Z) = 2 ^ s * (B * (2 ^ (32 - s) * Z)) := by
        conv => lhs; arg 2; rw [e1]
        rw [Nat.mul_left_comm]
      rw [Nat.mul_add, this, Nat.mul_comm B z]
      omega
    rw [e, Nat.add_mul_div_left _ _ hp, Nat.add_mul_mod_self_left]
  rw [← h1, ← h2]
  exact (Nat.mod_add_div _ B).symm
theorem unshift_step {o l : List Nat} {i s : Nat} (hs : s < 32) (hB : ∀ x ∈ l, x < B) (ho : i < o.length) (hl : i < l.length) (h : val (o.take i) + B ^ i * (val (l.drop i) / 2 ^ s) = val l / 2 ^ s) :
    val ((o.set i ((l.getD i 0 + l.getD (i + 1) 0 * B) / 2 ^ s % B)).take (i + 1)) + B ^ (i + 1) * (val (l.drop (i + 1)) / 2 ^ s) = val l / 2 ^ s := by
  have hx : l.getD i 0 < B := lt_getD hB
  have e : val (l.drop i) / 2 ^ s = (l.getD i 0 + l.getD (i + 1) 0 * B) / 2 ^ s % B + B * (val (l.drop (i + 1)) / 2 ^ s) := by
    rw [val_drop_cons hl]
    by_cases h2 : i + 1 < l.length
    · rw [val_drop_cons h2]
      exact unshift_digit hs hx
    · rw [List.drop_of_length_le (by omega), getD_ge (i := i + 1) (by omega), val_nil]
      have := unshift_digit (z := 0) (Z := 0) hs hx
      simp only [Nat.mul_zero, Nat.add_zero, Nat.zero_mul] at this ⊢
      exact this
  rw [val_take_set ho, ← h, e, Nat.mul_add, Nat.pow_succ, Nat.mul_assoc, Nat.add_assoc]
theorem or_B' {m x : Nat} (hx : x < 4294967296) : x ||| m * 4294967296 = x + m * 4294967296 := by
  rw [Nat.or_comm]
  have := or_B (m := m) hx
  simp only [B] at this
  rw [this, Nat.add_comm]
theorem mul_B_lt {m : Nat} (h : m < 4294967296) : m * 4294967296 < 18446744073709551616 := by
  have : m * 4294967296 ≤ 4294967295 * 4294967296 := Nat.mul_le_mul_right _ (by omega)
  exact Nat.lt_of_le_of_lt this (by decide)
theorem word_lt {h x : Nat} (hh : h < 4294967296) (hx : x < 4294967296) : h * 4294967296 + x < 18446744073709551616 := by
  have h1 : (h + 1) * 4294967296 ≤ 4294967296 * 4294967296 := Nat.mul_le_mul_right _ hh
  have h2 : (h + 1) * 4294967296 = h * 4294967296 + 4294967296 := by rw [Nat.add_mul, Nat.one_mul]
  rw [h2] at h1
  exact Nat.lt_of_lt_of_le (Nat.lt_of_lt_of_le (Nat.add_lt_add_left hx _) h1) (by decide)
theorem unshifted_ok {σ : St} {p n c s : Nat} {kd : Option Nat} {l : List Nat} (h : Own σ p n c kd l) (hn0 : 0 < n) (hn : n ≤ 1000000) (hs : s < 32) :
    C cxH 241 [.slice (some ⟨p, 0, none⟩) n c, .int .i64 (s : Int)] σ fun v σ' => (∃ l', Own σ' p n c kd l' ∧ val l' = val l / 2 ^ s) ∧ Sym.Mod p σ σ' := by
  have hl := h.len
  refine C_in (N := 38) (rs := []) fn_241 (by rfl) (by rfl) (by rfl) (by rfl) (by rfl) (by rfl) ?_
  simp (disch := first | exact sideD | fail) only [go_sem]
  refine Wloop_inv (fun m g σ' => ∃ (i : Nat) (o : List Nat), m = n - i ∧ i ≤ n ∧ g 0 = .slice (some ⟨p, 0, none⟩) n c ∧ g 1 = .int .i64 (s : Int) ∧ g 7 = .int .i64 (n : Int) ∧ g 8 = .int .i64 (i : Int) ∧ Own σ' p n c kd o ∧ Sym.Mod p σ.fresh σ' ∧ (0 < i → σ'.low ≤ p) ∧
      (∀ j, i ≤ j → o.getD j 0 = l.getD j 0) ∧ val (o.take i) + B ^ i * (val (l.drop i) / 2 ^ s) = val l / 2 ^ s) n (by rfl)
    ⟨0, l, rfl, Nat.zero_le _, by simp (disch := first | exact sideD | fail) only [go_sem], by simp (disch := first | exact sideD | fail) only [go_sem], by simp (disch := first | exact sideD | fail) only [go_sem], by simp (disch := first | exact sideD | fail) only [go_sem]; rfl, (show Own σ.fresh p n c kd l from h), (Mod.refl : Sym.Mod p σ.fresh σ.fresh), fun h => absurd h (Nat.lt_irrefl _), fun _ _ => rfl, by simp [val]⟩ ?_
  rintro m g σ' ⟨i, o, rfl, hi, g0, g1, g7, g8, hO, hM, hlow, hsame, hval⟩
  have ho := hO.len
  by_cases hin : i = n
  · subst hin
    have e : ((i : Int) < (i : Int)) = False := eq_false (by omega)
    simp (disch := first | exact sideD | fail) only [go_sem, g0, g1, g7, g8, e]
    have hv : val o = val l / 2 ^ s := by
      rw [List.take_of_length_le (by omega), List.drop_of_length_le (by omega), val_nil, Nat.zero_div, Nat.mul_zero, Nat.add_zero] at hval
      exact hval
    obtain ⟨h1, h2⟩ := own_back (v := .tuple #[]) hO hM (hlow hn0) h.lt
    exact ⟨⟨o, h1, hv⟩, h2⟩
  · have e : ((i : Int) < (n : Int)) = True := eq_true (by omega)
    have hxB : l.getD i 0 < B := lt_getD h.dig
    have hx := getD_some (l := o) (i := i) (by omega)
    rw [hsame i (Nat.le_refl _)] at hx
    have w2 : ∀ j, IntKind.u64.wrap ((l.getD j 0 : Nat) : Int) = ((l.getD j 0 : Nat) : Int) := fun j => wu_nat (by
      have : l.getD j 0 < B := lt_getD h.dig
      simp only [B] at this
      omega)
    have st := unshift_step hs h.dig (by omega) (by omega) hval
    have hq : (l.getD i 0 + l.getD (i + 1) 0 * B) / 2 ^ s % B < B := Nat.mod_lt _ B_pos
    have hp2 : s < 64 := by omega
    have hO1 : Own (σ'.set p (ow kd (o.set i ((l.getD i 0 + l.getD (i + 1) 0 * B) / 2 ^ s % B)))) p n c kd _ := hO.set hq
    have hM1 : Sym.Mod p σ.fresh (σ'.set p (ow kd (o.set i ((l.getD i 0 + l.getD (i + 1) 0 * B) / 2 ^ s % B)))) := hM.set _
    have fin : ∀ j, i + 1 ≤ j → (o.set i ((l.getD i 0 + l.getD (i + 1) 0 * B) / 2 ^ s % B)).getD j 0 = l.getD j 0 := fun j hj => by
      rw [getD_set_ne (by omega)]
      exact hsame j (by omega)
    by_cases hi2 : i + 1 < n
    · have e2 : (((i + 1 : Nat) : Int) < (n : Int)) = True := eq_true (by omega)
      have hx1 := getD_some (l := o) (i := i + 1) (by omega)
      rw [hsame (i + 1) (Nat.le_succ _)] at hx1
      have hyB : l.getD (i + 1) 0 < B := lt_getD h.dig
      simp only [B] at hxB hyB
      have hb1 := mul_B_lt hyB
      have hb2 : l.getD i 0 < 18446744073709551616 := by omega
      have eo := or_B' (m := l.getD (i + 1) 0) hxB
      simp only [B] at st hO1 hM1 fin
      simp (disch := first | exact sideD | fail) only [go_sem, g0, g1, g7, g8, e, e2, wi_succ, ia_own, hO.at, lo_ow hx, lo_ow hx1, w2, shl32, or_u64, eo, shr_var, wr32, st_ow]
      exact ⟨n - (i + 1), by omega, i + 1, _, rfl, by omega, trivial, trivial, trivial, rfl, hO1, hM1, fun _ => Nat.min_le_right _ _, fin, st⟩
    · have e2 : (((i + 1 : Nat) : Int) < (n : Int)) = False := eq_false (by omega)
      rw [getD_ge (l := l) (i := i + 1) (by omega), Nat.zero_mul, Nat.add_zero] at st hO1 hM1 fin
      simp only [B] at st hO1 hM1 fin
      simp (disch := first | exact sideD | fail) only [go_sem, g0, g1, g7, g8, e, e2, wi_succ, ia_own, hO.at, lo_ow hx, w2, shr_var, wr32, st_ow]
      exact ⟨n - (i + 1), by omega, i + 1, _, rfl, by omega, trivial, trivial, trivial, rfl, hO1, hM1, fun _ => Nat.min_le_right _ _, fin, st⟩
theorem qdigit_ok {σ : St} {b : Option Addr} {n c : Nat} {l : List Nat} {hi nx th U v w : Nat} (h : Dg cxH σ b n c l) (hn : 2 ≤ n) (hnn : n ≤ 1000000) (hhi : hi < B) (hnx : nx < B) (hth : th < B)
    (hk : Kn U v w (l.getD (n - 1) 0) (l.getD (n - 2) 0) (hi * B + nx) th) :
    C cxH 240 [.int .u32 (hi : Int), .int .u32 (nx : Int), .int .u32 (th : Int), .slice b n c] σ fun x σ' => (∃ q : Nat, x = .int .u64 (q : Int) ∧ U / v ≤ q ∧ q ≤ U / v + 1 ∧ q < B) ∧ σ' = σ := by
  obtain ⟨v1, hv1⟩ : ∃ v1, v1 = l.getD (n - 1) 0 := ⟨_, rfl⟩
  obtain ⟨v2, hv2⟩ : ∃ v2, v2 = l.getD (n - 2) 0 := ⟨_, rfl⟩
  rw [← hv1, ← hv2] at hk
  have hv1B : v1 < 4294967296 := by rw [hv1]; exact lt_getD h.lt
  have hv2B := hk.l2
  have hb1 := hk.b1
  have d1 := h.ext (Ext'.to_fresh σ)
  refine C_in (N := 61) (rs := [.tmp 8]) fn_240 (by rfl) (by rfl) (by rfl) (by rfl) (by rfl) (by rfl) ?_
  simp only [B] at hhi hnx hth hv2B hb1
  have w1 : IntKind.i64.wrap ((n : Int) - 1) = ((n - 1 : Nat) : Int) := wr64n (by omega) (by omega)
  have w2 : IntKind.i64.wrap ((n : Int) - 2) = ((n - 2 : Nat) : Int) := wr64n (by omega) (by omega)
  have hb2 := mul_B_lt hhi
  have eo := or_B (m := hi) (x := nx) hnx
  simp only [B] at eo
  have hnn := word_lt hhi hnx
  simp (disch := first | exact sideD | fail) only [go_sem, w1, w2, ia_33 d1, ld_136' d1, ← hv1, ← hv2, wu_nat, shl32, or_u64, eo, quo_u64, rem_u64]
  obtain ⟨N, hN⟩ : ∃ N, N = hi * 4294967296 + nx := ⟨_, rfl⟩
  obtain ⟨D, hD⟩ : ∃ D, D = U / v := ⟨_, rfl⟩
  rw [← hN] at hnn ⊢
  rw [show hi * B + nx = N from hN.symm] at hk
  rw [← hD]
  have kstart := hk.start
  have kltB := hk.lt_B
  have ktest := fun q r => hk.test (q := q) (r := r)
  have kstop := fun q r => hk.stop (q := q) (r := r)
  have kbrk := fun q r => hk.brk (q := q) (r := r)
  rw [← hD] at kstart kltB ktest kstop
  simp only [B] at kltB ktest kstop kbrk
  clear eo hb2 hN hD
  have hv10 : 0 < v1 := by omega
  refine Wloop_inv (fun m g σ' => ∃ (q r : Nat), m = q ∧ g 2 = .int .u32 (th : Int) ∧ g 9 = .int .u64 (v1 : Int) ∧ g 10 = .int .u64 (v2 : Int) ∧ g 12 = .int .u64 (q : Int) ∧ g 13 = .int .u64 (r : Int) ∧ σ' = σ.fresh ∧ N = q * v1 + r ∧ D ≤ q ∧ r < 4294967296 ∧ q < 18446744073709551616) (N / v1) (by rfl)
    ⟨N / v1, N % v1, rfl, by simp (disch := first | exact sideD | fail) only [go_sem], by simp (disch := first | exact sideD | fail) only [go_sem], by simp (disch := first | exact sideD | fail) only [go_sem], by simp (disch := first | exact sideD | fail) only [go_sem], by simp (disch := first | exact sideD | fail) only [go_sem], rfl, by rw [Nat.mul_comm]; exact (Nat.div_add_mod N v1).symm, kstart, Nat.lt_trans (Nat.mod_lt _ hv10) hv1B, Nat.lt_of_le_of_lt (Nat.div_le_self _ _) hnn⟩ ?_
  rintro m g _ ⟨q, r, rfl, g2, g9, g10, g12, g13, rfl, hqr, hq, hr, hq64⟩
  have hrth := word_lt hr hth
  have eo := or_B (m := r) (x := th) hth
  simp only [B] at eo
  have hrB := mul_B_lt hr
  have hrv : r + v1 < 18446744073709551616 := by omega
  have step : D < m → IntKind.u64.wrap ((m : Int) - 1) = ((m - 1 : Nat) : Int) := fun h => wu_sub (y := 1) (by omega) hq64
  have next : D < m → N = (m - 1) * v1 + (r + v1) := fun h => by
    obtain ⟨k, rfl⟩ : ∃ k, m = k + 1 := ⟨m - 1, by omega⟩
    rw [hqr, Nat.add_sub_cancel, Nat.add_mul, Nat.one_mul]
    omega
  have brk : D < m → 4294967296 ≤ r + v1 → m - 1 < 4294967296 ∧ m - 1 ≤ D + 1 := fun h hb => by
    have h1 := kbrk (m - 1) (r + v1) (next h) hb
    refine ⟨h1, kstop (m - 1) (r + v1) (next h) h1 ?_⟩
    have h2 : (m - 1) * v2 ≤ 4294967296 * 4294967296 := Nat.mul_le_mul (Nat.le_of_lt h1) (Nat.le_of_lt hv2B)
    have h3 : 4294967296 * 4294967296 ≤ (r + v1) * 4294967296 := Nat.mul_le_mul_right _ hb
    exact Nat.le_trans (Nat.le_trans h2 h3) (Nat.le_add_right _ _)
  by_cases hmB : 4294967296 ≤ m
  · have e1 : ((4294967296 : Int) ≤ (m : Int)) = True := eq_true (by omega)
    have hlt : D < m := Nat.lt_of_lt_of_le kltB hmB
    have w3 := step hlt
    simp (disch := first | exact sideD | fail) only [go_sem, g2, g9, g10, g12, g13, e1, w3, wu_add]
    refine Wcond_if (fun h3 => ?_) (fun h3 => ?_)
    · obtain ⟨h4, h5⟩ := brk hlt (by omega)
      simp (disch := first | exact sideD | fail) only [go_sem]
      exact ⟨⟨m - 1, rfl, by omega, h5, h4⟩, back_plain (Ext'.refl _) rfl⟩
    · simp (disch := first | exact sideD | fail) only [go_sem, g2, g9, g10]
      exact ⟨m - 1, by omega, m - 1, r + v1, rfl, trivial, trivial, trivial, rfl, rfl, trivial, next hlt, by omega, by omega, by omega⟩
  · have e1 : ((4294967296 : Int) ≤ (m : Int)) = False := eq_false (by omega)
    have hmv : m * v2 < 18446744073709551616 := Nat.lt_of_le_of_lt (mul_small (x := m) (y := v2) (by simp only [B]; omega) hv2B) (by decide)
    have w4 : ∀ x : Nat, x < 4294967296 → IntKind.u64.wrap (x : Int) = (x : Int) := fun x h => wu_nat (by omega)
    have w5 := w4 th hth
    have hth64 : th < 18446744073709551616 := by omega
    by_cases ht : r * 4294967296 + th < m * v2
    · have e2 : (((r * 4294967296 + th : Nat) : Int) < ((m * v2 : Nat) : Int)) = True := eq_true (Int.ofNat_lt.2 ht)
      have hlt : D < m := ktest m r hqr ht
      have w3 := step hlt
      simp (disch := first | exact sideD | fail) only [go_sem, g2, g9, g10, g12, g13, e1, wu_mul, shl32, w5, or_u64, eo, e2, w3, wu_add]
      refine Wcond_if (fun h3 => ?_) (fun h3 => ?_)
      · obtain ⟨h4, h5⟩ := brk hlt (by omega)
        simp (disch := first | exact sideD | fail) only [go_sem]
        exact ⟨⟨m - 1, rfl, by omega, h5, h4⟩, back_plain (Ext'.refl _) rfl⟩
      · simp (disch := first | exact sideD | fail) only [go_sem, g2, g9, g10]
        exact ⟨m - 1, by omega, m - 1, r + v1, rfl, trivial, trivial, trivial, rfl, rfl, trivial, next hlt, by omega, by omega, by omega⟩
    · have e2 : (((r * 4294967296 + th : Nat) : Int) < ((m * v2 : Nat) : Int)) = False := eq_false (fun h => ht (Int.ofNat_lt.1 h))
      simp (disch := first | exact sideD | fail) only [go_sem, g2, g9, g10, g12, g13, e1, wu_mul, shl32, w5, or_u64, eo, e2]
      exact ⟨⟨m, rfl, hq, kstop m r hqr (by omega) (Nat.le_of_not_lt ht), by simp only [B]; omega⟩, back_plain (Ext'.refl _) rfl⟩
end
end
end Go.Proofs.YtfdflggfffajaaaGreatDoor
