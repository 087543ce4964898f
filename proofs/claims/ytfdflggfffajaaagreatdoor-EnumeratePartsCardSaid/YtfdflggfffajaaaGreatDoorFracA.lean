/- Fractions, first part. -/
import Derived.Test.YtfdflggfffajaaaGreatDoorIntD
set_option linter.unusedVariables false
set_option linter.unusedSimpArgs false
set_option linter.unusedSectionVars false
namespace Go.Proofs.YtfdflggfffajaaaGreatDoor
open Go Go.Num Go.Proofs
open Go.Sym hiding val
noncomputable section
attribute [local congr] blk_congr Wpick_congr Wgd_congr Wgd'_congr Wcond_congr Wbin_congr Wun_congr Wconv_congr Wext_congr Wfa_congr Wfd_congr Wia_congr Wld_congr Wlen_congr Wst_congr Wbox_congr WldO_congr WstO_congr Wmk_congr Wsl_congr Wap_congr Wbs_congr Wbd_congr Wfn_congr C_congr
set_option maxHeartbeats 2000000
section
section
variable {σ : St} {p : Nat} {e : TypeId} {x y z w : Value}
theorem fa_37_0 {b : Nat} {K : Value → Prop} : Wfa cxH 37 0 (.pointer (some ⟨b, 0, none⟩)) K = K (.pointer (some ⟨b, 0, none⟩)) := by
  have : opFieldAddr cxH 37 (.pointer (some ⟨b, 0, none⟩)) 0 = some (.pointer (some ⟨b, 0, none⟩)) := by unfold opFieldAddr; rw [ty_37]; rfl
  unfold Wfa
  rw [this, Wo_some]
theorem fa_37_1 {b : Nat} {K : Value → Prop} : Wfa cxH 37 1 (.pointer (some ⟨b, 0, none⟩)) K = K (.pointer (some ⟨b, 2, none⟩)) := by
  have : opFieldAddr cxH 37 (.pointer (some ⟨b, 0, none⟩)) 1 = some (.pointer (some ⟨b, 2, none⟩)) := by unfold opFieldAddr; rw [ty_37]; rfl
  unfold Wfa
  rw [this, Wo_some]
theorem lo_35_a {K : Value → Prop} : Wo (loadO cxH 35 0 (.row [x, y, z, w] e)) K = K (.agg #[x, y]) := by
  have : loadO cxH 35 0 (.row [x, y, z, w] e) = some (.agg #[x, y]) := by unfold loadO; rw [ty_35]; rfl
  rw [this, Wo_some]
theorem lo_35_b {K : Value → Prop} : Wo (loadO cxH 35 2 (.row [x, y, z, w] e)) K = K (.agg #[z, w]) := by
  have : loadO cxH 35 2 (.row [x, y, z, w] e) = some (.agg #[z, w]) := by unfold loadO; rw [ty_35]; rfl
  rw [this, Wo_some]
theorem st_37 {K : Value → St → Prop} {n1 n2 : Bool} {b1 b2 : Option Addr} {m1 c1 m2 c2 : Nat} :
    WstO cxH σ 37 p 0 (some (.row [x, y, z, w] e)) (.agg #[.bool n1, .slice b1 m1 c1, .bool n2, .slice b2 m2 c2]) K = K undef (σ.set p (.row [.bool n1, .slice b1 m1 c1, .bool n2, .slice b2 m2 c2] e)) :=
  WstO_of (by unfold storeO; rw [ty_37]; rfl)
theorem bd_37 {n1 n2 : Bool} {b1 b2 : Option Addr} {m1 c1 m2 c2 : Nat} {K : Value → Prop} :
    Wbd cxH 37 [(0, .agg #[.bool n1, .slice b1 m1 c1]), (1, .agg #[.bool n2, .slice b2 m2 c2])] K = K (.agg #[.bool n1, .slice b1 m1 c1, .bool n2, .slice b2 m2 c2]) := by
  have : opBuild cxH 37 [(0, .agg #[.bool n1, .slice b1 m1 c1]), (1, .agg #[.bool n2, .slice b2 m2 c2])] = some (.agg #[.bool n1, .slice b1 m1 c1, .bool n2, .slice b2 m2 c2]) := by
    unfold opBuild
    rw [ty_37]
    simp only [Option.bind_eq_bind, Option.bind_some]
    rfl
  unfold Wbd
  rw [this, Wo_some]
theorem bd_37_1 {n2 : Bool} {b2 : Option Addr} {m2 c2 : Nat} {K : Value → Prop} :
    Wbd cxH 37 [(1, .agg #[.bool n2, .slice b2 m2 c2])] K = K (.agg #[.bool false, .slice none 0 0, .bool n2, .slice b2 m2 c2]) := by
  have : opBuild cxH 37 [(1, .agg #[.bool n2, .slice b2 m2 c2])] = some (.agg #[.bool false, .slice none 0 0, .bool n2, .slice b2 m2 c2]) := by
    unfold opBuild
    rw [ty_37]
    simp only [Option.bind_eq_bind, Option.bind_some]
    rfl
  unfold Wbd
  rw [this, Wo_some]
theorem fd_37_0 {K : Value → Prop} : Wfd cxH 37 0 (.agg #[x, y, z, w]) K = K (.agg #[x, y]) := by
  have : opField cxH 37 (.agg #[x, y, z, w]) 0 = some (.agg #[x, y]) := by unfold opField; rw [ty_37]; rfl
  unfold Wfd
  rw [this, Wo_some]
end
def GFrac (σ : St) (v : Value) (q : Rat) (k : Nat) : Prop := ∃ n1 b1 m1 c1 n2 b2 m2 c2 num den, v = .agg #[.bool n1, .slice b1 m1 c1, .bool n2, .slice b2 m2 c2] ∧ GInt σ (.agg #[.bool n1, .slice b1 m1 c1]) num ∧ GInt σ (.agg #[.bool n2, .slice b2 m2 c2]) den ∧
  q = Rat.divInt num den ∧ Sz num k ∧ Sz den k
def IsFrac (σ : St) (v : Value) (q : Rat) : Prop := ∃ n1 b1 m1 c1 n2 b2 m2 c2, v = .agg #[.bool n1, .slice b1 m1 c1, .bool n2, .slice b2 m2 c2] ∧ IsInt σ (.agg #[.bool n1, .slice b1 m1 c1]) q.num ∧ IsInt σ (.agg #[.bool n2, .slice b2 m2 c2]) q.den
def RSz (q : Rat) (k : Nat) : Prop := Sz q.num k ∧ Sz q.den k
theorem isFrac_g {σ : St} {v : Value} {q : Rat} {k : Nat} (h : IsFrac σ v q) (hs : RSz q k) (hk : k ≤ 100000) : GFrac σ v q k := by
  obtain ⟨n1, b1, m1, c1, n2, b2, m2, c2, rfl, h1, h2⟩ := h
  exact ⟨n1, b1, m1, c1, n2, b2, m2, c2, _, _, rfl, isInt_g h1 (hs.1.le hk), isInt_g h2 (hs.2.le hk), (Rat.num_divInt_den q).symm, hs.1, hs.2⟩
theorem isFrac_ext {σ σ' : St} {v : Value} {q : Rat} (h : IsFrac σ v q) (e : Ext' σ σ') : IsFrac σ' v q := by
  obtain ⟨n1, b1, m1, c1, n2, b2, m2, c2, rfl, h1, h2⟩ := h
  exact ⟨n1, b1, m1, c1, n2, b2, m2, c2, rfl, isInt_ext h1 e, isInt_ext h2 e⟩
theorem gFrac_ext {σ σ' : St} {v : Value} {q : Rat} {k : Nat} (h : GFrac σ v q k) (e : Ext' σ σ') : GFrac σ' v q k := by
  obtain ⟨n1, b1, m1, c1, n2, b2, m2, c2, num, den, rfl, h1, h2, h3⟩ := h
  exact ⟨n1, b1, m1, c1, n2, b2, m2, c2, num, den, rfl, gInt_ext h1 e, gInt_ext h2 e, h3⟩
theorem gFrac_le {σ : St} {v : Value} {q : Rat} {k j : Nat} (h : GFrac σ v q k) (hk : k ≤ j) : GFrac σ v q j := by
  obtain ⟨n1, b1, m1, c1, n2, b2, m2, c2, num, den, rfl, h1, h2, h3, h4, h5⟩ := h
  exact ⟨n1, b1, m1, c1, n2, b2, m2, c2, num, den, rfl, h1, h2, h3, h4.le hk, h5.le hk⟩
theorem isInt_agg {σ : St} {v : Value} {z : Int} (h : IsInt σ v z) : ∃ b n c, v = .agg #[.bool (decide (z < 0)), .slice b n c] := by
  obtain ⟨b, n, c, h, _⟩ := h
  exact ⟨b, n, c, h⟩
theorem gInt_set {σ : St} {v : Value} {z : Int} (h : GInt σ v z) {i : Nat} {cs cs' : List Value} {e e' : TypeId} (hc : Sym.look cxH σ i = some (.row cs e)) (hn : cs.all noInt = true) (hlen : cs'.length = cs.length) : GInt (σ.set i (.row cs' e')) v z := by
  obtain ⟨neg, b, n, c, l, rfl, h, k⟩ := h
  exact ⟨neg, b, n, c, l, rfl, dg_set h hc hn hlen, k⟩
theorem isFrac_set {σ : St} {v : Value} {q : Rat} (h : IsFrac σ v q) {i : Nat} {cs cs' : List Value} {e e' : TypeId} (hc : Sym.look cxH σ i = some (.row cs e)) (hn : cs.all noInt = true) (hlen : cs'.length = cs.length) : IsFrac (σ.set i (.row cs' e')) v q := by
  obtain ⟨n1, b1, m1, c1, n2, b2, m2, c2, rfl, h1, h2⟩ := h
  exact ⟨n1, b1, m1, c1, n2, b2, m2, c2, rfl, isInt_set h1 hc hn hlen, isInt_set h2 hc hn hlen⟩
theorem plain_4 {a b c d : Value} (h : plain (.agg #[a, b, c, d]) = true) : plain (.agg #[a, b]) = true ∧ plain (.agg #[c, d]) = true := by
  have h' : (plain a && (plain b && (plain c && (plain d && true)))) = true := h
  simp only [Bool.and_eq_true] at h'
  have e1 : plain (.agg #[a, b]) = (plain a && (plain b && true)) := rfl
  have e2 : plain (.agg #[c, d]) = (plain c && (plain d && true)) := rfl
  rw [e1, e2]
  simp [h'.1, h'.2.1, h'.2.2.1, h'.2.2.2.1]
theorem isFrac_back {σ0 σ : St} {v : Value} {q : Rat} (h : IsFrac σ v q) : IsFrac (back σ0 v σ) v q := by
  obtain ⟨n1, b1, m1, c1, n2, b2, m2, c2, rfl, h1, h2⟩ := h
  exact ⟨n1, b1, m1, c1, n2, b2, m2, c2, rfl, isInt_back' h1 fun hp => (plain_4 hp).1, isInt_back' h2 fun hp => (plain_4 hp).2⟩
theorem isFrac_put {σ0 σ : St} {p : Nat} {v : Value} {q : Rat} (h : IsFrac σ v q) (hc : Sym.look cxH σ p = some (.row [.bool false, .slice none 0 0, .bool false, .slice none 0 0] 37)) (e : Ext' σ0.fresh σ) (hp : σ0.next ≤ p) :
    ∃ n1 b1 m1 c1 n2 b2 m2 c2, v = .agg #[.bool n1, .slice b1 m1 c1, .bool n2, .slice b2 m2 c2] ∧ IsFrac (back σ0 v (σ.set p (.row [.bool n1, .slice b1 m1 c1, .bool n2, .slice b2 m2 c2] 37))) v q ∧ Ext' σ0 (back σ0 v (σ.set p (.row [.bool n1, .slice b1 m1 c1, .bool n2, .slice b2 m2 c2] 37))) := by
  have h' := h
  obtain ⟨n1, b1, m1, c1, n2, b2, m2, c2, rfl, h1, h2⟩ := h
  exact ⟨n1, b1, m1, c1, n2, b2, m2, c2, rfl, isFrac_back (isFrac_set h' hc rfl rfl), back_ext (e.set _ hp)⟩
theorem isFrac_mk {σ : St} {v w : Value} {q : Rat} (h1 : IsInt σ v q.num) (h2 : IsInt σ w q.den) : ∃ n1 b1 m1 c1 n2 b2 m2 c2, v = .agg #[.bool n1, .slice b1 m1 c1] ∧ w = .agg #[.bool n2, .slice b2 m2 c2] ∧ IsFrac σ (.agg #[.bool n1, .slice b1 m1 c1, .bool n2, .slice b2 m2 c2]) q := by
  obtain ⟨b1, m1, c1, rfl⟩ := isInt_agg h1
  obtain ⟨b2, m2, c2, rfl⟩ := isInt_agg h2
  exact ⟨_, b1, m1, c1, _, b2, m2, c2, rfl, rfl, _, b1, m1, c1, _, b2, m2, c2, rfl, h1, h2⟩
theorem gFrac_mk {σ : St} {v w : Value} {x y : Int} {k : Nat} (h1 : GInt σ v x) (h2 : GInt σ w y) (hx : Sz x k) (hy : Sz y k) : ∃ n1 b1 m1 c1 n2 b2 m2 c2, v = .agg #[.bool n1, .slice b1 m1 c1] ∧ w = .agg #[.bool n2, .slice b2 m2 c2] ∧ GFrac σ (.agg #[.bool n1, .slice b1 m1 c1, .bool n2, .slice b2 m2 c2]) (Rat.divInt x y) k := by
  have h1' := h1
  have h2' := h2
  obtain ⟨n1, b1, m1, c1, l1, rfl, _⟩ := h1
  obtain ⟨n2, b2, m2, c2, l2, rfl, _⟩ := h2
  exact ⟨n1, b1, m1, c1, n2, b2, m2, c2, rfl, rfl, n1, b1, m1, c1, n2, b2, m2, c2, x, y, rfl, h1', h2', rfl, hx, hy⟩
theorem rsz_divInt {x y : Int} {k : Nat} (hx : Sz x k) (hy : Sz y k) (hk : 1 ≤ k) : RSz (Rat.divInt x y) k := by
  by_cases h0 : y = 0
  · subst h0
    rw [Rat.divInt_zero]
    refine ⟨pow_pos k, ?_⟩
    have : 1 < B ^ k := Nat.one_lt_pow (by omega) (by decide)
    exact this
  · exact ⟨sz_num x y hx, sz_den x y h0 hy⟩
end
section
theorem isFrac_zero {σ : St} {b : Option Addr} {n c : Nat} (h : IsInt σ (.agg #[.bool (decide ((1 : Int) < 0)), .slice b n c]) 1) : IsFrac σ (.agg #[.bool false, .slice none 0 0, .bool (decide ((1 : Int) < 0)), .slice b n c]) 0 :=
  ⟨false, none, 0, 0, _, b, n, c, rfl, isInt_zero _, h⟩
theorem reduced_ok {σ : St} {v w : Value} {x y : Int} (h : GInt σ v x) (h2 : GInt σ w y) : C cxH 99 [v, w] σ fun v σ' => IsFrac σ' v (Rat.divInt x y) ∧ Ext' σ σ' := by
  have hsx := gInt_sz h
  have hsy := gInt_sz h2
  obtain ⟨na, ba, ma, ca, la, rfl, ha, hna, hxe⟩ := h
  obtain ⟨nb, bb, mb, cb, lb, rfl, hb, hnb, hye⟩ := h2
  refine C_in (N := 47) (rs := [.cell 4 37]) fn_99 (by rfl) (by rfl) (by rfl) (by rfl) (by rfl) (by rfl) ?_
  have e0 : Ext' σ.fresh (((σ.fresh.add (.row [.bool na, .slice ba ma ca] 35)).add (.row [.bool nb, .slice bb mb cb] 35)).add (.row [.bool false, .slice none 0 0, .bool false, .slice none 0 0] 37)) := (((Ext'.refl _).add _).add _).add _
  have ga : GInt _ _ x := ⟨na, ba, ma, ca, la, rfl, (ha.ext (Ext'.to_fresh σ)).ext e0, hna, hxe⟩
  have gb : GInt _ _ y := ⟨nb, bb, mb, cb, lb, rfl, (hb.ext (Ext'.to_fresh σ)).ext e0, hnb, hye⟩
  simp (disch := first | exact sideD | fail) only [go_sem, al_37, lo_35]
  apply usep
  case h => exact sign_ok ga
  rintro _ rfl
  by_cases hx0 : x = 0
  · have e : (x.sign = 0) = True := eq_true (by rw [hx0]; rfl)
    simp (disch := first | exact sideD | fail) only [go_sem, e]
    apply use
    case hl => exact sideX
    case h => exact one_ok
    rintro v σ1 h3 e1 l1
    have n_e1 := e1.next
    try simp only [add_next, set_next, fresh_next, low_next, lw_next] at n_e1
    obtain ⟨b3, n3, c3, rfl⟩ := isInt_agg h3
    have hF := isFrac_zero h3
    simp (disch := first | exact sideD | fail) only [go_sem, bd_37_1]
    rw [hx0, Rat.zero_divInt]
    have hc : Sym.look cxH σ1 (σ.next + 1 + 1) = some (.row [.bool false, .slice none 0 0, .bool false, .slice none 0 0] 37) := by simp (disch := first | exact sideD | fail) only [go_sem, e1.look]
    simp (disch := first | exact sideD | fail) only [go_sem, hc, e1.look, st_37, lo_37]
    exact ⟨isFrac_back (isFrac_set hF hc rfl rfl), back_ext ((e0.trans e1).set _ (by first | omega | (show σ.next ≤ _; omega)))⟩
  · have e : (x.sign = 0) = False := eq_false (fun h => hx0 (Int.sign_eq_zero_iff_zero.1 h))
    simp (disch := first | exact sideD | fail) only [go_sem, e, lo_35]
    apply usep
    case h => exact sign_ok gb
    rintro _ rfl
    by_cases hy0 : y = 0
    · have e2 : (y.sign = 0) = True := eq_true (by rw [hy0]; rfl)
      simp (disch := first | exact sideD | fail) only [go_sem, e2]
      apply use
      case hl => exact sideX
      case h => exact one_ok
      rintro v σ1 h3 e1 l1
      have n_e1 := e1.next
      try simp only [add_next, set_next, fresh_next, low_next, lw_next] at n_e1
      obtain ⟨b3, n3, c3, rfl⟩ := isInt_agg h3
      have hF := isFrac_zero h3
      simp (disch := first | exact sideD | fail) only [go_sem, bd_37_1]
      rw [hy0, Rat.divInt_zero]
      have hc : Sym.look cxH σ1 (σ.next + 1 + 1) = some (.row [.bool false, .slice none 0 0, .bool false, .slice none 0 0] 37) := by simp (disch := first | exact sideD | fail) only [go_sem, e1.look]
      simp (disch := first | exact sideD | fail) only [go_sem, hc, e1.look, st_37, lo_37]
      exact ⟨isFrac_back (isFrac_set hF hc rfl rfl), back_ext ((e0.trans e1).set _ (by first | omega | (show σ.next ≤ _; omega)))⟩
    · have e2 : (y.sign = 0) = False := eq_false (fun h => hy0 (Int.sign_eq_zero_iff_zero.1 h))
      simp (disch := first | exact sideD | fail) only [go_sem, e2, lo_35]
      apply use
      case hl => exact sideX
      case h => exact gcd_ok ga gb
      rintro vg σ1 hg e1 l1
      have n_e1 := e1.next
      try simp only [add_next, set_next, fresh_next, low_next, lw_next] at n_e1
      have ga1 := gInt_ext ga e1
      have gb1 := gInt_ext gb e1
      have E := e0.trans e1
      obtain ⟨G, hG⟩ : ∃ G : Nat, G = Nat.gcd x.natAbs y.natAbs := ⟨_, rfl⟩
      rw [← hG] at hg
      have hG0 : G ≠ 0 := by
        rw [hG]
        intro h
        have := (Nat.gcd_eq_zero_iff.1 h).2
        omega
      have hGs : Sz (G : Int) 100000 := by
        refine Nat.lt_of_le_of_lt ?_ hsy
        rw [hG]
        exact Nat.gcd_le_right _ (by omega)
      have hGg : ((y.gcd x : Nat) : Int) = (G : Int) := by
        rw [hG, Int.gcd, Nat.gcd_comm]
      obtain ⟨lt1, lt2⟩ := low_terms x y hy0
      have dv1 := signed_dvd_right x y hy0
      have dv2 := signed_dvd_left x y
      rw [hGg] at lt1 lt2 dv1 dv2
      obtain ⟨b3, n3, c3, rfl⟩ := isInt_agg hg
      have hz0 : y.sign * (G : Int) ≠ 0 := fun h => by
        rcases Int.mul_eq_zero.1 h with h | h
        · exact hy0 (Int.sign_eq_zero_iff_zero.1 h)
        · omega
      have hzs : Sz (y.sign * (G : Int)) 100000 := by
        rcases Int.lt_or_gt_of_ne hy0 with h | h
        · rw [Int.sign_eq_neg_one_of_neg h, Int.neg_mul, Int.one_mul]
          exact hGs.neg
        · rw [Int.sign_eq_one_of_pos h, Int.one_mul]
          exact hGs
      have k1 : Sym.look cxH σ1 σ.next = some (.row [.bool na, .slice ba ma ca] 35) := by simp (disch := first | exact sideD | fail) only [go_sem, e1.look]
      have k2 : Sym.look cxH σ1 (σ.next + 1) = some (.row [.bool nb, .slice bb mb cb] 35) := by simp (disch := first | exact sideD | fail) only [go_sem, e1.look]
      have k3 : Sym.look cxH σ1 (σ.next + 1 + 1) = some (.row [.bool false, .slice none 0 0, .bool false, .slice none 0 0] 37) := by simp (disch := first | exact sideD | fail) only [go_sem, e1.look]
      have hn1 : σ.next + 1 + 1 < σ1.next := by omega
      simp (disch := first | exact sideD | fail) only [go_sem, al_35, st_35]
      have hg' := isInt_set (cs' := [.bool (decide ((G : Int) < 0)), .slice b3 n3 c3]) (e' := 35) (isInt_ext hg ((Ext'.refl σ1).add (.row [.bool false, .slice none 0 0] 35))) (look_add rfl) rfl rfl
      obtain ⟨σ2, hσ2⟩ : ∃ σ2, σ2 = (σ1.add (.row [.bool false, .slice none 0 0] 35)).set σ1.next (.row [.bool (decide ((G : Int) < 0)), .slice b3 n3 c3] 35) := ⟨_, rfl⟩
      have e2' : Ext' σ1 σ2 := by rw [hσ2]; exact ((Ext'.refl σ1).add _).set _ (Nat.le_refl _)
      have k4 : Sym.look cxH σ2 σ1.next = some (.row [.bool (decide ((G : Int) < 0)), .slice b3 n3 c3] 35) := by rw [hσ2]; exact look_set rfl
      have hn2 : σ2.next = σ1.next + 1 := by rw [hσ2, set_next, add_next]
      rw [← hσ2] at hg'
      rw [← hσ2]
      have l2 := e2'.le l1
      have ga2 := gInt_ext ga1 e2'
      have gb2 := gInt_ext gb1 e2'
      have E2 := E.trans e2'
      clear hσ2 hg E
      simp (disch := first | exact sideD | fail) only [go_sem, e2'.look, k2, lo_35]
      apply usep
      case h => exact sign_ok gb2
      rintro _ rfl
      simp (disch := first | exact sideD | fail) only [go_sem]
      generalize hQ : seqQ cxH 47 _ _ = Q
      have rest : ∀ (g : Fm) (σ3 : St) (n4 : Bool) (b4 : Option Addr) (m4 c4 : Nat), Ext' σ.fresh σ3 → σ1.next < σ3.next → IsInt σ3 (.agg #[.bool n4, .slice b4 m4 c4]) (y.sign * G) → Sym.look cxH σ3 σ1.next = some (.row [.bool n4, .slice b4 m4 c4] 35) →
          GInt σ3 (.agg #[.bool na, .slice ba ma ca]) x → GInt σ3 (.agg #[.bool nb, .slice bb mb cb]) y → Sym.look cxH σ3 σ.next = some (.row [.bool na, .slice ba ma ca] 35) → Sym.look cxH σ3 (σ.next + 1) = some (.row [.bool nb, .slice bb mb cb] 35) →
          Sym.look cxH σ3 (σ.next + 1 + 1) = some (.row [.bool false, .slice none 0 0, .bool false, .slice none 0 0] 37) →
          g 2 = .pointer (some ⟨σ.next, 0, none⟩) → g 3 = .pointer (some ⟨σ.next + 1, 0, none⟩) → g 4 = .pointer (some ⟨σ.next + 1 + 1, 0, none⟩) → g 5 = .pointer (some ⟨σ1.next, 0, none⟩) → Q .normal g σ3 := by
        subst hQ
        intro g σ3 n4 b4 m4 c4 E3 hn3 hg3 k5 ga3 gb3 k6 k7 k8 g2 g3 g4 g5
        have l3 := E3.fresh_le
        have gg3 := isInt_g hg3 hzs
        simp (disch := first | exact sideD | fail) only [go_sem, g2, g3, g4, g5, k5, k6, lo_35]
        apply use
        case hl => exact sideX
        case h => exact divMod_ok ga3 gg3 hz0 dv1
        rintro _ σ4 ⟨q, r, rfl, hq, hr⟩ e4 l4
        have n_e4 := e4.next
        try simp only [add_next, set_next, fresh_next, low_next, lw_next] at n_e4
        rw [← lt1] at hq
        have ea4 : Ext' σ4 ((σ4.add (.row [.bool false, .slice none 0 0] 35)).add (.row [.bool false, .slice none 0 0] 35)) := ((Ext'.refl _).add _).add _
        obtain ⟨b5, n5, c5, b6, n6, c6, σ5, rfl, rfl, hσ5, j1, j2, hI1, hI2, E5⟩ := two_put (σ0 := σ) (u := .int .i64 0) (isInt_ext hq ea4) (isInt_ext hr ea4) (p := σ4.next) (p' := σ4.next + 1) (by simp (disch := first | exact sideD | fail) only [go_sem]) (by simp (disch := first | exact sideD | fail) only [go_sem]) (by omega) ((E3.trans e4).trans ea4) (by have := (E3.trans e4).next; exact this) (by have := (E3.trans e4).next; exact Nat.le_succ_of_le this)
        have e5 : Ext' σ4 σ5 := by rw [hσ5]; exact (ea4.set _ (Nat.le_refl _)).set _ (Nat.le_succ _)
        have l5 := e5.le l4
        have hn5 : σ4.next + 1 < σ5.next := by
          rw [hσ5, set_next, set_next, add_next, add_next]
          omega
        simp (disch := first | exact sideD | fail) only [go_sem, al_35, st_35]
        rw [← hσ5]
        have gb5 := gInt_ext (gInt_ext gb3 e4) e5
        have gg5 := gInt_ext (gInt_ext gg3 e4) e5
        have hlt3 : σ.next + 1 + 1 < σ3.next := by omega
        simp (disch := first | exact sideD | fail) only [go_sem, g2, g3, g4, g5, e5.look, e4.look, k5, k7, lo_35]
        apply use
        case hl => exact sideX
        case h => exact divMod_ok gb5 gg5 hz0 dv2
        rintro _ σ6 ⟨q2, r2, rfl, hq2, hr2⟩ e6 l6
        have n_e6 := e6.next
        try simp only [add_next, set_next, fresh_next, low_next, lw_next] at n_e6
        rw [← lt2] at hq2
        have ea6 : Ext' σ6 ((σ6.add (.row [.bool false, .slice none 0 0] 35)).add (.row [.bool false, .slice none 0 0] 35)) := ((Ext'.refl _).add _).add _
        obtain ⟨b7, n7, c7, b8, n8, c8, σ7, rfl, rfl, hσ7, j3, j4, hI3, hI4, E7⟩ := two_put (σ0 := σ) (u := .int .i64 0) (isInt_ext hq2 ea6) (isInt_ext hr2 ea6) (p := σ6.next) (p' := σ6.next + 1) (by simp (disch := first | exact sideD | fail) only [go_sem]) (by simp (disch := first | exact sideD | fail) only [go_sem]) (by omega) ((E5.trans e6).trans ea6) (by have := (E5.trans e6).next; exact this) (by have := (E5.trans e6).next; exact Nat.le_succ_of_le this)
        have e7 : Ext' σ6 σ7 := by rw [hσ7]; exact (ea6.set _ (Nat.le_refl _)).set _ (Nat.le_succ _)
        have l7 := e7.le l6
        simp (disch := first | exact sideD | fail) only [go_sem, al_35, st_35]
        rw [← hσ7]
        have hI1' := isInt_ext (isInt_ext hI1 e6) e7
        have hF : IsFrac σ7 (.agg #[.bool (decide ((Rat.divInt x y).num < 0)), .slice b5 n5 c5, .bool (decide ((((Rat.divInt x y).den : Nat) : Int) < 0)), .slice b7 n7 c7]) (Rat.divInt x y) := ⟨_, _, _, _, _, _, _, _, rfl, hI1', hI3⟩
        simp (disch := first | exact sideD | fail) only [go_sem, g2, g3, g4, g5, e7.look, e6.look, j1, j3, lo_35, bd_37]
        have hc : Sym.look cxH σ7 (σ.next + 1 + 1) = some (.row [.bool false, .slice none 0 0, .bool false, .slice none 0 0] 37) := by simp (disch := first | exact sideD | fail) only [go_sem, g4, e7.look, e6.look, e5.look, e4.look, k8]
        simp (disch := first | exact sideD | fail) only [go_sem, hc, g4, e7.look, e6.look, e5.look, e4.look, k8, st_37, lo_37]
        exact ⟨isFrac_back (isFrac_set hF hc rfl rfl), back_ext ((E7).set _ (by first | omega | (show σ.next ≤ _; omega)))⟩
      have k6' : Sym.look cxH σ2 σ.next = some (.row [.bool na, .slice ba ma ca] 35) := by simp (disch := first | exact sideD | fail) only [go_sem, e2'.look, k1]
      have k7' : Sym.look cxH σ2 (σ.next + 1) = some (.row [.bool nb, .slice bb mb cb] 35) := by simp (disch := first | exact sideD | fail) only [go_sem, e2'.look, k2]
      have k8' : Sym.look cxH σ2 (σ.next + 1 + 1) = some (.row [.bool false, .slice none 0 0, .bool false, .slice none 0 0] 37) := by simp (disch := first | exact sideD | fail) only [go_sem, e2'.look, k3]
      by_cases hneg : y < 0
      · have hs : y.sign = -1 := Int.sign_eq_neg_one_of_neg hneg
        have e3 : (y.sign < 0) = True := eq_true (by rw [hs]; decide)
        have gg2 := isInt_g hg' hGs
        simp (disch := first | exact sideD | fail) only [go_sem, e3, k4, lo_35]
        apply use
        case hl => exact sideX
        case h => exact negate_ok gg2
        rintro vn σ3 hn e5 l3
        have n_e5 := e5.next
        try simp only [add_next, set_next, fresh_next, low_next, lw_next] at n_e5
        rw [show -(G : Int) = y.sign * G by rw [hs, Int.neg_mul, Int.one_mul]] at hn
        obtain ⟨b4, n4, c4, rfl⟩ := isInt_agg hn
        have k4' : Sym.look cxH σ3 σ1.next = some (.row [.bool (decide ((G : Int) < 0)), .slice b3 n3 c3] 35) := by simp (disch := first | exact sideD | fail) only [go_sem, e5.look, k4]
        have hn' := isInt_set (cs' := [.bool (decide (y.sign * (G : Int) < 0)), .slice b4 n4 c4]) (e' := 35) hn k4' rfl rfl
        have ga3 := gInt_set (cs' := [.bool (decide (y.sign * (G : Int) < 0)), .slice b4 n4 c4]) (e' := 35) (gInt_ext ga2 e5) k4' rfl rfl
        have gb3 := gInt_set (cs' := [.bool (decide (y.sign * (G : Int) < 0)), .slice b4 n4 c4]) (e' := 35) (gInt_ext gb2 e5) k4' rfl rfl
        simp (disch := first | exact sideD | fail) only [go_sem, k4', st_35]
        exact rest _ _ _ _ _ _ ((E2.trans e5).set _ (by show σ.next ≤ _; omega)) (by rw [set_next]; omega) hn' (look_set rfl) ga3 gb3 (by simp (disch := first | exact sideD | fail) only [go_sem, e5.look, k6']) (by simp (disch := first | exact sideD | fail) only [go_sem, e5.look, k7']) (by simp (disch := first | exact sideD | fail) only [go_sem, e5.look, k8']) (by simp (disch := first | exact sideD | fail) only [go_sem]) (by simp (disch := first | exact sideD | fail) only [go_sem]) (by simp (disch := first | exact sideD | fail) only [go_sem]) (by simp (disch := first | exact sideD | fail) only [go_sem])
      · have hs : y.sign = 1 := Int.sign_eq_one_of_pos (by omega)
        have e3 : (y.sign < 0) = False := eq_false (by rw [hs]; decide)
        have hgs : IsInt σ2 (.agg #[.bool (decide ((G : Int) < 0)), .slice b3 n3 c3]) (y.sign * G) := by
          rw [hs, Int.one_mul]
          exact hg'
        simp (disch := first | exact sideD | fail) only [go_sem, e3]
        exact rest _ _ _ _ _ _ E2 (by omega) hgs k4 ga2 gb2 k6' k7' k8' (by simp (disch := first | exact sideD | fail) only [go_sem]) (by simp (disch := first | exact sideD | fail) only [go_sem]) (by simp (disch := first | exact sideD | fail) only [go_sem]) (by simp (disch := first | exact sideD | fail) only [go_sem])
end
section
theorem gInt_back' {σ0 σ : St} {v u : Value} {z : Int} (h : GInt σ u z) (hv : plain v = true → plain u = true) : GInt (back σ0 v σ) u z := by
  obtain ⟨neg, b, n, c, l, rfl, h, k⟩ := h
  refine ⟨neg, b, n, c, l, rfl, dg_back h fun hp => ?_, k⟩
  have : ((true && ((b.isNone && decide (c < capBase)) && true))) = true := hv hp
  simp only [Bool.true_and, Bool.and_true, Bool.and_eq_true, Option.isNone_iff_eq_none] at this
  exact this.1
theorem plain_t2' {a b : Value} (h : plain (.tuple #[a, b]) = true) : plain a = true ∧ plain b = true := by
  have : (plain a && (plain b && true)) = true := h
  simp only [Bool.and_eq_true] at this
  exact ⟨this.1, this.2.1⟩
def Parts (σ : St) (v : Value) (q : Rat) (k : Nat) : Prop := ∃ va vb num den, v = .tuple #[va, vb] ∧ GInt σ va num ∧ GInt σ vb den ∧ 0 < den ∧ q = Rat.divInt num den ∧ Sz num k ∧ Sz den k
theorem one_lt_B (k : Nat) (hk : 1 ≤ k) : Sz 1 k := by
  have : 1 < B ^ k := Nat.one_lt_pow (by omega) (by decide)
  exact this
theorem parts_ok {σ : St} {v : Value} {q : Rat} {k : Nat} (h : GFrac σ v q k) (hk : k ≤ 100000) (hk1 : 1 ≤ k) : C cxH 94 [v] σ fun v σ' => Parts σ' v q k ∧ Ext' σ σ' := by
  obtain ⟨n1, b1, m1, c1, n2, b2, m2, c2, num, den, rfl, h1, h2, rfl, hs1, hs2⟩ := h
  refine C_in (N := 24) (rs := [.cell 2 35, .cell 3 35]) fn_94 (by rfl) (by rfl) (by rfl) (by rfl) (by rfl) (by rfl) ?_
  have e0 : Ext' σ.fresh (((σ.fresh.add (.row [.bool n1, .slice b1 m1 c1, .bool n2, .slice b2 m2 c2] 37)).add (.row [.bool false, .slice none 0 0] 35)).add (.row [.bool false, .slice none 0 0] 35)) := (((Ext'.refl _).add _).add _).add _
  have g1 := gInt_ext (gInt_ext h1 (Ext'.to_fresh σ)) e0
  have g2 := gInt_ext (gInt_ext h2 (Ext'.to_fresh σ)) e0
  simp (disch := first | exact sideD | fail) only [go_sem, al_35, fa_37_1, lo_35_b]
  apply usep
  case h => exact sign_ok g2
  rintro _ rfl
  by_cases hd0 : den = 0
  · have e : (den.sign = 0) = True := eq_true (by rw [hd0]; rfl)
    simp (disch := first | exact sideD | fail) only [go_sem, e, bd_35_n]
    apply use
    case hl => exact sideX
    case h => exact one_ok
    rintro vo σ1 ho e1 l1
    have n_e1 := e1.next
    try simp only [add_next, set_next, fresh_next, low_next, lw_next] at n_e1
    obtain ⟨b5, n5, c5, b6, n6, c6, σ5, hv5, rfl, hσ5, j1, j2, hI1, hI2, E5⟩ := two_put (σ0 := σ) (u := .int .i64 0) (isInt_zero σ1) ho (p := σ.next + 1) (p' := σ.next + 1 + 1) (by simp (disch := first | exact sideD | fail) only [go_sem, e1.look]) (by simp (disch := first | exact sideD | fail) only [go_sem, e1.look]) (by omega) (e0.trans e1) (by omega) (by omega)
    injection hv5 with hv5
    simp only [Array.mk.injEq, List.cons.injEq, Value.slice.injEq] at hv5
    obtain ⟨-, ⟨rfl, rfl, rfl⟩, -⟩ := hv5
    simp (disch := first | exact sideD | fail) only [go_sem, e1.look, st_35]
    rw [show (decide ((0 : Int) < 0)) = false from rfl] at hσ5
    rw [← hσ5]
    simp (disch := first | exact sideD | fail) only [go_sem, lo_35]
    refine ⟨⟨_, _, 0, 1, rfl, gInt_back' (isInt_g hI1 sz_zero) (fun hp => (plain_t2' hp).1), gInt_back' (isInt_g hI2 (one_lt_B _ (by decide))) (fun hp => (plain_t2' hp).2), by decide, ?_, sz_zero, one_lt_B k hk1⟩, back_ext E5⟩
    rw [hd0, Rat.divInt_zero, Rat.zero_divInt]
  · have e : (den.sign = 0) = False := eq_false (fun h => hd0 (Int.sign_eq_zero_iff_zero.1 h))
    simp (disch := first | exact sideD | fail) only [go_sem, e, fa_37_1, lo_35_b]
    apply usep
    case h => exact sign_ok g2
    rintro _ rfl
    by_cases hneg : den < 0
    · have e2 : (den.sign < 0) = True := eq_true (by rw [Int.sign_eq_neg_one_of_neg hneg]; decide)
      simp (disch := first | exact sideD | fail) only [go_sem, e2, fa_37_0, lo_35_a]
      apply useD
      case hl => exact sideX
      case h => exact negate_ok g1
      case hR => exact fun _ _ _ h => h
      rintro va σ1 hva e1 l1
      have n_e1 := e1.next
      try simp only [add_next, set_next, fresh_next, low_next, lw_next] at n_e1
      have g21 := gInt_ext g2 e1
      simp (disch := first | exact sideD | fail) only [go_sem, e1.look, fa_37_1, lo_35_b]
      apply useD
      case hl => exact sideX
      case h => exact negate_ok g21
      case hR => exact fun _ _ _ h => h
      rintro vb σ2 hvb e2' l2
      have n_e2' := e2'.next
      try simp only [add_next, set_next, fresh_next, low_next, lw_next] at n_e2'
      have hva' := isInt_ext hva e2'
      obtain ⟨b5, n5, c5, b6, n6, c6, σ5, rfl, rfl, hσ5, j1, j2, hI1, hI2, E5⟩ := two_put (σ0 := σ) (u := .int .i64 0) hva' hvb (p := σ.next + 1) (p' := σ.next + 1 + 1) (by simp (disch := first | exact sideD | fail) only [go_sem, e2'.look, e1.look]) (by simp (disch := first | exact sideD | fail) only [go_sem, e2'.look, e1.look]) (by omega) ((e0.trans e1).trans e2') (by omega) (by omega)
      simp (disch := first | exact sideD | fail) only [go_sem, e2'.look, e1.look, st_35]
      rw [← hσ5]
      simp (disch := first | exact sideD | fail) only [go_sem, j1, j2, lo_35]
      exact ⟨⟨_, _, -num, -den, rfl, gInt_back' (isInt_g hI1 (hs1.neg.le hk)) (fun hp => (plain_t2' hp).1), gInt_back' (isInt_g hI2 (hs2.neg.le hk)) (fun hp => (plain_t2' hp).2), by omega, (Rat.neg_divInt_neg num den).symm, hs1.neg, hs2.neg⟩, back_ext E5⟩
    · have e2 : (den.sign < 0) = False := eq_false (by rw [Int.sign_eq_one_of_pos (by omega)]; decide)
      simp (disch := first | exact sideX | fail) only [go_sem, e2]
      rw [Wc_drawF (by kernel_rfl)]
      obtain ⟨σ1, hσ1⟩ : ∃ σ1, σ1 = ((σ.fresh.add (.row [.bool n1, .slice b1 m1 c1, .bool n2, .slice b2 m2 c2] 37)).add (.row [.bool false, .slice none 0 0] 35)).add (.row [.bool false, .slice none 0 0] 35) := ⟨_, rfl⟩
      have k1 : Sym.look cxH σ1 σ.next = some (.row [.bool n1, .slice b1 m1 c1, .bool n2, .slice b2 m2 c2] 37) := by
        rw [hσ1]
        simp (disch := first | exact sideD | fail) only [go_sem]
      have k2 : Sym.look cxH σ1 (σ.next + 1) = some (.row [.bool false, .slice none 0 0] 35) := by
        rw [hσ1]
        simp (disch := first | exact sideD | fail) only [go_sem]
      have k3 : Sym.look cxH σ1 (σ.next + 1 + 1) = some (.row [.bool false, .slice none 0 0] 35) := by
        rw [hσ1]
        simp (disch := first | exact sideD | fail) only [go_sem]
      have hn1 : σ.next + 1 + 1 < σ1.next := by
        rw [hσ1, add_next, add_next, add_next, fresh_next]
        omega
      rw [← hσ1] at e0 g1 g2
      rw [← hσ1]
      have l1 := e0.fresh_le
      have v1 : Sym.loadVar cxH σ1 35 ⟨σ.next, 0, none⟩ = some (.agg #[.bool n1, .slice b1 m1 c1]) := loadVar_eq.2 ⟨_, k1, by unfold loadO; rw [ty_35]; rfl⟩
      have v2 : Sym.loadVar cxH σ1 35 ⟨σ.next, 2, none⟩ = some (.agg #[.bool n2, .slice b2 m2 c2]) := loadVar_eq.2 ⟨_, k1, by unfold loadO; rw [ty_35]; rfl⟩
      refine Wd_fa (v := .pointer (some ⟨σ.next, 0, none⟩)) l1 (by simp (disch := first | exact sideD | fail) only [go_sem, fa_37_0]) ?_ fits_nil
      refine Wd_ld (p := σ.next) (off := 0) l1 (by simp (disch := first | exact sideD | fail) only [go_sem]) v1 fits_nil' ?_
      refine Wd_fa (v := .pointer (some ⟨σ.next, 2, none⟩)) l1 (by simp (disch := first | exact sideD | fail) only [go_sem, fa_37_1]) ?_ fits_nil
      refine Wd_ld (p := σ.next) (off := 2) l1 (by simp (disch := first | exact sideD | fail) only [go_sem]) v2 (fits_rr fits_nil') ?_
      refine Wd_st (p := σ.next + 1) (off := 0) (σ' := σ1.set (σ.next + 1) (.row [.bool n1, .slice b1 m1 c1] 35)) l1 (by simp (disch := first | exact sideD | fail) only [go_sem]) (by simp (disch := first | exact sideD | fail) only [go_sem, k2, st_35]) (fits_wr (by omega) (fits_wr (by omega) fits_nil')) ?_
      refine Wd_st (p := σ.next + 1 + 1) (off := 0) (σ' := (σ1.set (σ.next + 1) (.row [.bool n1, .slice b1 m1 c1] 35)).set (σ.next + 1 + 1) (.row [.bool n2, .slice b2 m2 c2] 35)) sideX (by simp (disch := first | exact sideD | fail) only [go_sem]) (by simp (disch := first | exact sideD | fail) only [go_sem, k3, st_35]) (fits_ww (by omega) (fits_wr (by omega) (fits_wr (by omega) fits_nil'))) ?_
      rw [Wd_nil]
      have hx1 := gInt_set (cs' := [.bool n1, .slice b1 m1 c1]) (e' := 35) g1 k2 rfl rfl
      have hx2 := gInt_set (cs' := [.bool n1, .slice b1 m1 c1]) (e' := 35) g2 k2 rfl rfl
      have k3' : Sym.look cxH (σ1.set (σ.next + 1) (.row [.bool n1, .slice b1 m1 c1] 35)) (σ.next + 1 + 1) = some (.row [.bool false, .slice none 0 0] 35) := by simp (disch := first | exact sideD | fail) only [go_sem, k3]
      have hy1 := gInt_set (cs' := [.bool n2, .slice b2 m2 c2]) (e' := 35) hx1 k3' rfl rfl
      have hy2 := gInt_set (cs' := [.bool n2, .slice b2 m2 c2]) (e' := 35) hx2 k3' rfl rfl
      simp (disch := first | exact sideD | fail) only [go_sem, lo_35]
      exact ⟨⟨_, _, num, den, rfl, gInt_back' hy1 (fun hp => (plain_t2' hp).1), gInt_back' hy2 (fun hp => (plain_t2' hp).2), by omega, rfl, hs1, hs2⟩, back_ext ((e0.set _ (by show σ.next ≤ _; omega)).set _ (by show σ.next ≤ _; omega))⟩
theorem fromInt_ok {σ : St} {v : Value} {x : Int} (h : GInt σ v x) : C cxH 97 [v] σ fun v σ' => IsFrac σ' v x ∧ Ext' σ σ' := by
  obtain ⟨na, ba, ma, ca, la, rfl, ha, hna, hxe⟩ := h
  refine C_in (N := 6) (rs := [.cell 2 37]) fn_97 (by rfl) (by rfl) (by rfl) (by rfl) (by rfl) (by rfl) ?_
  have e0 : Ext' σ.fresh ((σ.fresh.add (.row [.bool na, .slice ba ma ca] 35)).add (.row [.bool false, .slice none 0 0, .bool false, .slice none 0 0] 37)) := ((Ext'.refl _).add _).add _
  have ga : GInt _ _ x := ⟨na, ba, ma, ca, la, rfl, (ha.ext (Ext'.to_fresh σ)).ext e0, hna, hxe⟩
  simp (disch := first | exact sideD | fail) only [go_sem, al_37, lo_35]
  apply useD
  case hl => exact sideX
  case h => exact one_ok
  case hR => exact fun _ _ _ h => h
  rintro vo σ1 ho e1 l1
  have n_e1 := e1.next
  try simp only [add_next, set_next, fresh_next, low_next, lw_next] at n_e1
  have ga1 := gInt_ext ga e1
  simp (disch := first | exact sideD | fail) only [go_sem]
  apply useD
  case hl => exact sideX
  case h => exact reduced_ok ga1 (isInt_g ho (one_lt_B _ (by decide)))
  case hR => exact fun _ _ _ h => h
  rintro vf σ2 hF e2 l2
  have n_e2 := e2.next
  try simp only [add_next, set_next, fresh_next, low_next, lw_next] at n_e2
  have hx : Rat.divInt x 1 = (x : Rat) := by
    have := Rat.num_divInt_den (x : Rat)
    exact this
  rw [hx] at hF
  have hc : Sym.look cxH σ2 (σ.next + 1) = some (.row [.bool false, .slice none 0 0, .bool false, .slice none 0 0] 37) := by simp (disch := first | exact sideD | fail) only [go_sem, e2.look, e1.look]
  obtain ⟨n31, b31, m31, c31, n32, b32, m32, c32, rfl, hq4, hq5⟩ := isFrac_put (σ0 := σ) hF hc ((e0.trans e1).trans e2) (by omega)
  simp (disch := first | exact sideD | fail) only [go_sem, hc, e2.look, e1.look, st_37, lo_37]
  exact ⟨hq4, hq5⟩
theorem whole_ok {σ : St} {a : Int} (h1 : -9223372036854775808 ≤ a) (h2 : a < 9223372036854775808) : C cxH 59 [.int .i64 a] σ fun v σ' => IsFrac σ' v a ∧ Ext' σ σ' := by
  refine C_in (N := 6) (rs := [.cell 2 37]) fn_59 (by rfl) (by rfl) (by rfl) (by rfl) (by rfl) (by rfl) ?_
  have e0 : Ext' σ.fresh (σ.fresh.add (.row [.bool false, .slice none 0 0, .bool false, .slice none 0 0] 37)) := (Ext'.refl _).add _
  simp (disch := first | exact sideD | fail) only [go_sem, al_37]
  apply use
  case hl => exact sideX
  case h => exact fromInt64_ok h1 h2
  rintro vo σ1 ho e1 l1
  have n_e1 := e1.next
  try simp only [add_next, set_next, fresh_next, low_next, lw_next] at n_e1
  obtain ⟨b5, n5, c5, rfl⟩ := isInt_agg ho
  simp (disch := first | exact sideD | fail) only [go_sem]
  apply use
  case hl => exact sideX
  case h => exact fromInt_ok (isInt_g ho ((sz_64 h1 h2).le (by decide)))
  rintro vf σ2 hF e2 l2
  have n_e2 := e2.next
  try simp only [add_next, set_next, fresh_next, low_next, lw_next] at n_e2
  have hc : Sym.look cxH σ2 (σ.next) = some (.row [.bool false, .slice none 0 0, .bool false, .slice none 0 0] 37) := by simp (disch := first | exact sideD | fail) only [go_sem, e2.look, e1.look]
  obtain ⟨n31, b31, m31, c31, n32, b32, m32, c32, rfl, hq4, hq5⟩ := isFrac_put (σ0 := σ) hF hc ((e0.trans e1).trans e2) (by omega)
  simp (disch := first | exact sideD | fail) only [go_sem, hc, e2.look, e1.look, st_37, lo_37]
  exact ⟨hq4, hq5⟩
theorem fsign_ok {σ : St} {v : Value} {q : Rat} {k : Nat} (h : GFrac σ v q k) (hk : k ≤ 100000) (hk1 : 1 ≤ k) : C cxH 67 [v] σ fun v σ' => v = .int .i64 q.num.sign ∧ σ' = σ := by
  have h' := h
  obtain ⟨n1, b1, m1, c1, n2, b2, m2, c2, num, den, rfl, h1, h2, hq, hs1, hs2⟩ := h
  refine C_in (N := 12) (rs := [.tmp 2]) fn_67 (by rfl) (by rfl) (by rfl) (by rfl) (by rfl) (by rfl) ?_
  have e0 : Ext' σ.fresh (σ.fresh.add (.row [.bool n1, .slice b1 m1 c1, .bool n2, .slice b2 m2 c2] 37)) := (Ext'.refl _).add _
  have hg := gFrac_ext (gFrac_ext h' (Ext'.to_fresh σ)) e0
  simp (disch := first | exact sideD | fail) only [go_sem, lo_37]
  apply use
  case hl => exact sideX
  case h => exact parts_ok hg hk hk1
  rintro _ σ1 ⟨va, vb, num1, den1, rfl, ha, hb, hd, hq1, hz1, hz2⟩ e1 l1
  have n_e1 := e1.next
  try simp only [add_next, set_next, fresh_next, low_next, lw_next] at n_e1
  have ha' := ha
  have hb' := hb
  obtain ⟨na, ba, ma, ca, la, rfl, -⟩ := ha'
  obtain ⟨nb, bb, mb, cb, lb, rfl, -⟩ := hb'
  simp (disch := first | exact sideD | fail) only [go_sem, al_35, st_35]
  have ha2 := gInt_ext ha (((Ext'.refl σ1).add (.row [.bool false, .slice none 0 0] 35)).add (.row [.bool false, .slice none 0 0] 35))
  have k1 : Sym.look cxH ((σ1.add (.row [.bool false, .slice none 0 0] 35)).add (.row [.bool false, .slice none 0 0] 35)) σ1.next = some (.row [.bool false, .slice none 0 0] 35) := by simp (disch := first | exact sideD | fail) only [go_sem]
  have ha3 := gInt_set (cs' := [.bool na, .slice ba ma ca]) (e' := 35) ha2 k1 rfl rfl
  have k2 : Sym.look cxH (((σ1.add (.row [.bool false, .slice none 0 0] 35)).add (.row [.bool false, .slice none 0 0] 35)).set σ1.next (.row [.bool na, .slice ba ma ca] 35)) (σ1.next + 1) = some (.row [.bool false, .slice none 0 0] 35) := by simp (disch := first | exact sideD | fail) only [go_sem]
  have ha4 := gInt_set (cs' := [.bool nb, .slice bb mb cb]) (e' := 35) ha3 k2 rfl rfl
  have E := (e0.trans e1).trans ((((Ext'.refl σ1).add (.row [.bool false, .slice none 0 0] 35)).add (.row [.bool false, .slice none 0 0] 35)))
  have hn1 : σ.next ≤ σ1.next := by omega
  simp (disch := first | exact sideD | fail) only [go_sem, lo_35]
  apply usep
  case h => exact sign_ok ha4
  rintro _ rfl
  simp (disch := first | exact sideD | fail) only [go_sem]
  refine ⟨?_, back_plain ((E.set _ (by show σ.next ≤ _; omega)).set _ (by show σ.next ≤ _; omega)) rfl⟩
  rw [hq1, sign_divInt _ _ hd]
end
end
end Go.Proofs.YtfdflggfffajaaaGreatDoor
