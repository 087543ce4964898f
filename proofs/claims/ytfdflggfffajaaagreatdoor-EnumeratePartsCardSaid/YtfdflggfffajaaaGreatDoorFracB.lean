/- Fractions, second part. -/
import Derived.Test.YtfdflggfffajaaaGreatDoorFracA
set_option linter.unusedVariables false
set_option linter.unusedSimpArgs false
set_option linter.unusedSectionVars false
namespace Go.Proofs.YtfdflggfffajaaaGreatDoor
open Go Go.Num Go.Proofs
open Go.Sym hiding val
noncomputable section
attribute [local congr] blk_congr Wpick_congr Wgd_congr Wgd'_congr Wcond_congr Wbin_congr Wun_congr Wconv_congr Wext_congr Wfa_congr Wfd_congr Wia_congr Wld_congr Wlen_congr Wst_congr Wbox_congr WldO_congr WstO_congr Wmk_congr Wsl_congr Wap_congr Wbs_congr Wbd_congr Wfn_congr C_congr
set_option maxHeartbeats 2000000
section
theorem two_cells (σ : St) (n1 : Bool) (b1 : Option Addr) (m1 c1 : Nat) (n2 : Bool) (b2 : Option Addr) (m2 c2 : Nat) :
    ∃ σ', σ' = (((σ.add (.row [.bool false, .slice none 0 0] 35)).add (.row [.bool false, .slice none 0 0] 35)).set σ.next (.row [.bool n1, .slice b1 m1 c1] 35)).set (σ.next + 1) (.row [.bool n2, .slice b2 m2 c2] 35) ∧
      Sym.look cxH σ' σ.next = some (.row [.bool n1, .slice b1 m1 c1] 35) ∧ Sym.look cxH σ' (σ.next + 1) = some (.row [.bool n2, .slice b2 m2 c2] 35) ∧ Ext' σ σ' ∧ σ'.next = σ.next + 2 := by
  refine ⟨_, rfl, ?_, look_set rfl, ((((Ext'.refl σ).add _).add _).set _ (Nat.le_refl _)).set _ (Nat.le_succ _), rfl⟩
  rw [look_set_ne (by omega), look_set rfl]
theorem fsub_ok {σ : St} {v w : Value} {p q : Rat} {k : Nat} (h : GFrac σ v p k) (h2 : GFrac σ w q k) (hk : k ≤ 20000) (hk1 : 1 ≤ k) : C cxH 60 [v, w] σ fun v σ' => IsFrac σ' v (p - q) ∧ Ext' σ σ' := by
  have h' := h
  have h2' := h2
  obtain ⟨n1, b1, m1, c1, n2, b2, m2, c2, numa, dena, rfl, -⟩ := h'
  obtain ⟨n3, b3, m3, c3, n4, b4, m4, c4, numb, denb, rfl, -⟩ := h2'
  refine C_in (N := 30) (rs := [.cell 4 37]) fn_60 (by rfl) (by rfl) (by rfl) (by rfl) (by rfl) (by rfl) ?_
  have e0 : Ext' σ.fresh (((σ.fresh.add (.row [.bool n1, .slice b1 m1 c1, .bool n2, .slice b2 m2 c2] 37)).add (.row [.bool n3, .slice b3 m3 c3, .bool n4, .slice b4 m4 c4] 37)).add (.row [.bool false, .slice none 0 0, .bool false, .slice none 0 0] 37)) := (((Ext'.refl _).add _).add _).add _
  have ga := gFrac_ext (gFrac_ext h (Ext'.to_fresh σ)) e0
  have gb := gFrac_ext (gFrac_ext h2 (Ext'.to_fresh σ)) e0
  simp (disch := first | exact sideD | fail) only [go_sem, al_37, lo_37]
  apply use
  case hl => exact sideX
  case h => exact parts_ok ga (by omega) hk1
  rintro _ σ1 ⟨va, vb, x, y, rfl, hx, hy, hy0, hp, sx, sy⟩ e1 l1
  have n_e1 := e1.next
  try simp only [add_next, set_next, fresh_next, low_next, lw_next] at n_e1
  obtain ⟨nx, bx, mx, cx', lx, rfl, -⟩ := id hx
  obtain ⟨ny, by', my, cy, ly, rfl, -⟩ := id hy
  simp (disch := first | exact sideD | fail) only [go_sem, al_35, st_35]
  obtain ⟨σ2, hσ2, j1, j2, e2, hn2⟩ := two_cells σ1 nx bx mx cx' ny by' my cy
  rw [← hσ2]
  have l2 := e2.le l1
  have gb2 := gFrac_ext (gFrac_ext gb e1) e2
  simp (disch := first | exact sideD | fail) only [go_sem, e2.look, e1.look, lo_37]
  apply use
  case hl => exact sideX
  case h => exact parts_ok gb2 (by omega) hk1
  rintro _ σ3 ⟨vc, vd, z, w, rfl, hz, hw, hw0, hq, sz, sw⟩ e3 l3
  have n_e3 := e3.next
  try simp only [add_next, set_next, fresh_next, low_next, lw_next] at n_e3
  obtain ⟨nz, bz, mz, cz, lz, rfl, -⟩ := id hz
  obtain ⟨nw, bw, mw, cw, lw, rfl, -⟩ := id hw
  simp (disch := first | exact sideX | fail) only [go_sem, al_35, st_35]
  obtain ⟨σ4, hσ4, j3, j4, e4, hn4⟩ := two_cells σ3 nz bz mz cz nw bw mw cw
  rw [← hσ4]
  have l4 := e4.le l3
  have hx4 := gInt_ext (gInt_ext (gInt_ext hx e2) e3) e4
  have hy4 := gInt_ext (gInt_ext (gInt_ext hy e2) e3) e4
  have hz4 := gInt_ext hz e4
  have hw4 := gInt_ext hw e4
  have j1' : Sym.look cxH σ4 σ1.next = some (.row [.bool nx, .slice bx mx cx'] 35) := by simp (disch := first | exact sideD | fail) only [go_sem, e4.look, e3.look, j1]
  have j2' : Sym.look cxH σ4 (σ1.next + 1) = some (.row [.bool ny, .slice by' my cy] 35) := by simp (disch := first | exact sideD | fail) only [go_sem, e4.look, e3.look, j2]
  have k0 : Sym.look cxH σ4 (σ.next + 1 + 1) = some (.row [.bool false, .slice none 0 0, .bool false, .slice none 0 0] 37) := by simp (disch := first | exact sideD | fail) only [go_sem, e4.look, e3.look, e2.look, e1.look]
  have hlt1 : σ1.next + 1 < σ4.next := by omega
  have hlt3 : σ3.next + 1 < σ4.next := by omega
  have E := (((e0.trans e1).trans e2).trans e3).trans e4
  clear hσ2 hσ4
  simp (disch := first | exact sideD | fail) only [go_sem, j1', j4, lo_35]
  apply useD
  case hl => exact sideX
  case h => exact mul_ok hx4 hw4
  case hR => exact fun _ _ _ h => h
  rintro va5 σ5 h5 e5 l5
  have n_e5 := e5.next
  try simp only [add_next, set_next, fresh_next, low_next, lw_next] at n_e5
  have hz5 := gInt_ext hz4 e5
  have hy5 := gInt_ext hy4 e5
  simp (disch := first | exact sideD | fail) only [go_sem, e5.look, j2', j3, lo_35]
  apply useD
  case hl => exact sideX
  case h => exact mul_ok hz5 hy5
  case hR => exact fun _ _ _ h => h
  rintro va6 σ6 h6 e6 l6
  have n_e6 := e6.next
  try simp only [add_next, set_next, fresh_next, low_next, lw_next] at n_e6
  have s5 := sx.mul sw
  have s6 := sz.mul sy
  have g5 := isInt_g (isInt_ext h5 e6) (s5.le (by omega))
  have g6 := isInt_g h6 (s6.le (by omega))
  simp (disch := first | exact sideD | fail) only [go_sem]
  apply useD
  case hl => exact sideX
  case h => exact sub_ok g5 g6
  case hR => exact fun _ _ _ h => h
  rintro va7 σ7 h7 e7 l7
  have n_e7 := e7.next
  try simp only [add_next, set_next, fresh_next, low_next, lw_next] at n_e7
  have hy7 := gInt_ext (gInt_ext hy5 e6) e7
  have hw7 := gInt_ext (gInt_ext (gInt_ext hw4 e5) e6) e7
  have s7 := s5.sub s6
  simp (disch := first | exact sideD | fail) only [go_sem, e7.look, e6.look, e5.look, j2', j4, lo_35]
  apply useD
  case hl => exact sideX
  case h => exact mul_ok hy7 hw7
  case hR => exact fun _ _ _ h => h
  rintro va8 σ8 h8 e8 l8
  have n_e8 := e8.next
  try simp only [add_next, set_next, fresh_next, low_next, lw_next] at n_e8
  have s8 := sy.mul sw
  have g7 := isInt_g (isInt_ext h7 e8) (s7.le (by omega))
  have g8 := isInt_g h8 (s8.le (by omega))
  simp (disch := first | exact sideD | fail) only [go_sem]
  apply useD
  case hl => exact sideX
  case h => exact reduced_ok g7 g8
  case hR => exact fun _ _ _ h => h
  rintro vf σ9 hF e9 l9
  have n_e9 := e9.next
  try simp only [add_next, set_next, fresh_next, low_next, lw_next] at n_e9
  have hr : Rat.divInt (x * w - z * y) (y * w) = p - q := by rw [hp, hq, Rat.divInt_sub_divInt _ _ (by omega) (by omega)]
  rw [hr] at hF
  have hc : Sym.look cxH σ9 (σ.next + 1 + 1) = some (.row [.bool false, .slice none 0 0, .bool false, .slice none 0 0] 37) := by simp (disch := first | exact sideD | fail) only [go_sem, e9.look, e8.look, e7.look, e6.look, e5.look, k0]
  obtain ⟨n31, b31, m31, c31, n32, b32, m32, c32, rfl, hq4, hq5⟩ := isFrac_put (σ0 := σ) hF hc (((((E.trans e5).trans e6).trans e7).trans e8).trans e9) (by omega)
  simp (disch := first | exact sideD | fail) only [go_sem, hc, e9.look, e8.look, e7.look, e6.look, e5.look, k0, st_37, lo_37]
  exact ⟨hq4, hq5⟩
theorem fmul_ok {σ : St} {v w : Value} {p q : Rat} {k : Nat} (h : GFrac σ v p k) (h2 : GFrac σ w q k) (hk : k ≤ 20000) (hk1 : 1 ≤ k) : C cxH 61 [v, w] σ fun v σ' => IsFrac σ' v (p * q) ∧ Ext' σ σ' := by
  have h' := h
  have h2' := h2
  obtain ⟨n1, b1, m1, c1, n2, b2, m2, c2, numa, dena, rfl, -⟩ := h'
  obtain ⟨n3, b3, m3, c3, n4, b4, m4, c4, numb, denb, rfl, -⟩ := h2'
  refine C_in (N := 26) (rs := [.cell 4 37]) fn_61 (by rfl) (by rfl) (by rfl) (by rfl) (by rfl) (by rfl) ?_
  have e0 : Ext' σ.fresh (((σ.fresh.add (.row [.bool n1, .slice b1 m1 c1, .bool n2, .slice b2 m2 c2] 37)).add (.row [.bool n3, .slice b3 m3 c3, .bool n4, .slice b4 m4 c4] 37)).add (.row [.bool false, .slice none 0 0, .bool false, .slice none 0 0] 37)) := (((Ext'.refl _).add _).add _).add _
  have ga := gFrac_ext (gFrac_ext h (Ext'.to_fresh σ)) e0
  have gb := gFrac_ext (gFrac_ext h2 (Ext'.to_fresh σ)) e0
  simp (disch := first | exact sideD | fail) only [go_sem, al_37, lo_37]
  apply use
  case hl => exact sideX
  case h => exact parts_ok ga (by omega) hk1
  rintro _ σ1 ⟨va, vb, x, y, rfl, hx, hy, hy0, hp, sx, sy⟩ e1 l1
  have n_e1 := e1.next
  try simp only [add_next, set_next, fresh_next, low_next, lw_next] at n_e1
  obtain ⟨nx, bx, mx, cx', lx, rfl, -⟩ := id hx
  obtain ⟨ny, by', my, cy, ly, rfl, -⟩ := id hy
  simp (disch := first | exact sideD | fail) only [go_sem, al_35, st_35]
  obtain ⟨σ2, hσ2, j1, j2, e2, hn2⟩ := two_cells σ1 nx bx mx cx' ny by' my cy
  rw [← hσ2]
  have l2 := e2.le l1
  have gb2 := gFrac_ext (gFrac_ext gb e1) e2
  simp (disch := first | exact sideD | fail) only [go_sem, e2.look, e1.look, lo_37]
  apply use
  case hl => exact sideX
  case h => exact parts_ok gb2 (by omega) hk1
  rintro _ σ3 ⟨vc, vd, z, w, rfl, hz, hw, hw0, hq, sz, sw⟩ e3 l3
  have n_e3 := e3.next
  try simp only [add_next, set_next, fresh_next, low_next, lw_next] at n_e3
  obtain ⟨nz, bz, mz, cz, lz, rfl, -⟩ := id hz
  obtain ⟨nw, bw, mw, cw, lw, rfl, -⟩ := id hw
  simp (disch := first | exact sideX | fail) only [go_sem, al_35, st_35]
  obtain ⟨σ4, hσ4, j3, j4, e4, hn4⟩ := two_cells σ3 nz bz mz cz nw bw mw cw
  rw [← hσ4]
  have l4 := e4.le l3
  have hx4 := gInt_ext (gInt_ext (gInt_ext hx e2) e3) e4
  have hy4 := gInt_ext (gInt_ext (gInt_ext hy e2) e3) e4
  have hz4 := gInt_ext hz e4
  have hw4 := gInt_ext hw e4
  have j1' : Sym.look cxH σ4 σ1.next = some (.row [.bool nx, .slice bx mx cx'] 35) := by simp (disch := first | exact sideD | fail) only [go_sem, e4.look, e3.look, j1]
  have j2' : Sym.look cxH σ4 (σ1.next + 1) = some (.row [.bool ny, .slice by' my cy] 35) := by simp (disch := first | exact sideD | fail) only [go_sem, e4.look, e3.look, j2]
  have k0 : Sym.look cxH σ4 (σ.next + 1 + 1) = some (.row [.bool false, .slice none 0 0, .bool false, .slice none 0 0] 37) := by simp (disch := first | exact sideD | fail) only [go_sem, e4.look, e3.look, e2.look, e1.look]
  have hlt1 : σ1.next + 1 < σ4.next := by omega
  have hlt3 : σ3.next + 1 < σ4.next := by omega
  have E := (((e0.trans e1).trans e2).trans e3).trans e4
  clear hσ2 hσ4
  simp (disch := first | exact sideD | fail) only [go_sem, j1', j3, lo_35]
  apply useD
  case hl => exact sideX
  case h => exact mul_ok hx4 hz4
  case hR => exact fun _ _ _ h => h
  rintro va5 σ5 h5 e5 l5
  have n_e5 := e5.next
  try simp only [add_next, set_next, fresh_next, low_next, lw_next] at n_e5
  have hw5 := gInt_ext hw4 e5
  have hy5 := gInt_ext hy4 e5
  simp (disch := first | exact sideD | fail) only [go_sem, e5.look, j2', j4, lo_35]
  apply useD
  case hl => exact sideX
  case h => exact mul_ok hy5 hw5
  case hR => exact fun _ _ _ h => h
  rintro va6 σ6 h6 e6 l6
  have n_e6 := e6.next
  try simp only [add_next, set_next, fresh_next, low_next, lw_next] at n_e6
  have s5 := sx.mul sz
  have s6 := sy.mul sw
  have g5 := isInt_g (isInt_ext h5 e6) (s5.le (by omega))
  have g6 := isInt_g h6 (s6.le (by omega))
  simp (disch := first | exact sideD | fail) only [go_sem]
  apply useD
  case hl => exact sideX
  case h => exact reduced_ok g5 g6
  case hR => exact fun _ _ _ h => h
  rintro vf σ9 hF e9 l9
  have n_e9 := e9.next
  try simp only [add_next, set_next, fresh_next, low_next, lw_next] at n_e9
  have hr : Rat.divInt (x * z) (y * w) = p * q := by rw [hp, hq, Rat.divInt_mul_divInt]
  rw [hr] at hF
  have hc : Sym.look cxH σ9 (σ.next + 1 + 1) = some (.row [.bool false, .slice none 0 0, .bool false, .slice none 0 0] 37) := by simp (disch := first | exact sideD | fail) only [go_sem, e9.look, e6.look, e5.look, k0]
  obtain ⟨n31, b31, m31, c31, n32, b32, m32, c32, rfl, hq4, hq5⟩ := isFrac_put (σ0 := σ) hF hc (((E.trans e5).trans e6).trans e9) (by omega)
  simp (disch := first | exact sideD | fail) only [go_sem, hc, e9.look, e6.look, e5.look, k0, st_37, lo_37]
  exact ⟨hq4, hq5⟩
end
section
theorem isInt_len {σ : St} {neg : Bool} {b : Option Addr} {n c : Nat} {z : Int} (h : IsInt σ (.agg #[.bool neg, .slice b n c]) z) : n = (digits z.natAbs).length ∧ neg = decide (z < 0) := by
  obtain ⟨b', n', c', e, d⟩ := h
  injection e with e
  simp only [Array.mk.injEq, List.cons.injEq, Value.slice.injEq, Value.bool.injEq] at e
  exact ⟨by rw [e.2.1.2.1]; exact d.len, e.1⟩
theorem rReduce_ok {σ : St} {v : Value} {q : Rat} {k : Nat} (h : GFrac σ v q k) (hk : k ≤ 100000) : C cxH 69 [v] σ fun v σ' => IsFrac σ' v q ∧ Ext' σ σ' := by
  obtain ⟨n1, b1, m1, c1, n2, b2, m2, c2, x, y, rfl, h1, h2, rfl, hs1, hs2⟩ := h
  refine C_in (N := 50) (rs := [.cell 2 37]) fn_69 (by rfl) (by rfl) (by rfl) (by rfl) (by rfl) (by rfl) ?_
  have e0 : Ext' σ.fresh ((σ.fresh.add (.row [.bool n1, .slice b1 m1 c1, .bool n2, .slice b2 m2 c2] 37)).add (.row [.bool false, .slice none 0 0, .bool false, .slice none 0 0] 37)) := ((Ext'.refl _).add _).add _
  have g1 := gInt_ext (gInt_ext h1 (Ext'.to_fresh σ)) e0
  have g2 := gInt_ext (gInt_ext h2 (Ext'.to_fresh σ)) e0
  simp (disch := first | exact sideD | fail) only [go_sem, al_37, fa_37_0, lo_35_a]
  apply useD
  case hl => exact sideX
  case h => exact canon_ok g1
  case hR => exact fun _ _ _ h => h
  rintro va σ1 ha e1 l1
  have n_e1 := e1.next
  try simp only [add_next, set_next, fresh_next, low_next, lw_next] at n_e1
  have g21 := gInt_ext g2 e1
  simp (disch := first | exact sideD | fail) only [go_sem, e1.look, fa_37_1, lo_35_b]
  apply useD
  case hl => exact sideX
  case h => exact canon_ok g21
  case hR => exact fun _ _ _ h => h
  rintro vb σ2 hb e2 l2
  have n_e2 := e2.next
  try simp only [add_next, set_next, fresh_next, low_next, lw_next] at n_e2
  have ha2 := isInt_ext ha e2
  obtain ⟨bx, mx, cx', rfl⟩ := isInt_agg ha
  obtain ⟨by', my, cy, rfl⟩ := isInt_agg hb
  have hmx := (isInt_len ha).1
  have hmy := (isInt_len hb).1
  simp (disch := first | exact sideD | fail) only [go_sem, al_35, st_35]
  obtain ⟨σ3, hσ3, j1, j2, e3, hn3⟩ := two_cells σ2 (decide (x < 0)) bx mx cx' (decide (y < 0)) by' my cy
  rw [← hσ3]
  have l3 := e3.le l2
  have ha3 := isInt_ext ha2 e3
  have hb3 := isInt_ext hb e3
  have E := ((e0.trans e1).trans e2).trans e3
  have k0 : Sym.look cxH σ3 (σ.next + 1) = some (.row [.bool false, .slice none 0 0, .bool false, .slice none 0 0] 37) := by simp (disch := first | exact sideD | fail) only [go_sem, e3.look, e2.look, e1.look]
  have hlt : σ.next + 1 < σ2.next := by omega
  clear hσ3
  simp (disch := first | exact sideD | fail) only [go_sem, j1, fa_35_1, lo_33_1]
  by_cases hx0 : x = 0
  · have e : ((mx : Int) = 0) = True := eq_true (by
      rw [hx0, show (0 : Int).natAbs = 0 from rfl, digits_zero] at hmx
      simp at hmx
      omega)
    simp (disch := first | exact sideD | fail) only [go_sem, e]
    apply use
    case hl => exact sideX
    case h => exact rOne_ok
    rintro vo σ4 ho e4 l4
    have n_e4 := e4.next
    try simp only [add_next, set_next, fresh_next, low_next, lw_next] at n_e4
    obtain ⟨b5, n5, c5, rfl⟩ := isInt_agg ho
    have hF := isFrac_zero ho
    simp (disch := first | exact sideD | fail) only [go_sem, bd_37_1]
    rw [hx0, Rat.zero_divInt]
    have hc : Sym.look cxH σ4 (σ.next + 1) = some (.row [.bool false, .slice none 0 0, .bool false, .slice none 0 0] 37) := by simp (disch := first | exact sideD | fail) only [go_sem, e4.look, k0]
    simp (disch := first | exact sideD | fail) only [go_sem, hc, e4.look, k0, st_37, lo_37]
    exact ⟨isFrac_back (isFrac_set hF hc rfl rfl), back_ext ((E.trans e4).set _ (by first | omega | (show σ.next ≤ _; omega)))⟩
  · have e : ((mx : Int) = 0) = False := eq_false (by
      rw [hmx, digits_pos (by omega), List.length_cons]
      omega)
    simp (disch := first | exact sideD | fail) only [go_sem, e, j2, fa_35_1, lo_33_1]
    by_cases hy0 : y = 0
    · have e : ((my : Int) = 0) = True := eq_true (by
        rw [hy0, show (0 : Int).natAbs = 0 from rfl, digits_zero] at hmy
        simp at hmy
        omega)
      simp (disch := first | exact sideD | fail) only [go_sem, e]
      apply use
      case hl => exact sideX
      case h => exact rOne_ok
      rintro vo σ4 ho e4 l4
      have n_e4 := e4.next
      try simp only [add_next, set_next, fresh_next, low_next, lw_next] at n_e4
      obtain ⟨b5, n5, c5, rfl⟩ := isInt_agg ho
      have hF := isFrac_zero ho
      simp (disch := first | exact sideD | fail) only [go_sem, bd_37_1]
      rw [hy0, Rat.divInt_zero]
      have hc : Sym.look cxH σ4 (σ.next + 1) = some (.row [.bool false, .slice none 0 0, .bool false, .slice none 0 0] 37) := by simp (disch := first | exact sideD | fail) only [go_sem, e4.look, k0]
      simp (disch := first | exact sideD | fail) only [go_sem, hc, e4.look, k0, st_37, lo_37]
      exact ⟨isFrac_back (isFrac_set hF hc rfl rfl), back_ext ((E.trans e4).set _ (by first | omega | (show σ.next ≤ _; omega)))⟩
    · have e : ((my : Int) = 0) = False := eq_false (by
        rw [hmy, digits_pos (by omega), List.length_cons]
        omega)
      simp (disch := first | exact sideD | fail) only [go_sem, e, j2, fa_35_0, lo_4_0]
      generalize hQ : seqQ cxH 50 _ _ = Q
      have rest : ∀ (g : Fm) (σ4 : St) (X Y : Int) (n5 : Bool) (b5 : Option Addr) (m5 c5 : Nat) (n6 : Bool) (b6 : Option Addr) (m6 c6 : Nat), Ext' σ.fresh σ4 → σ2.next + 1 < σ4.next → 0 < Y → Sz X 100000 → Sz Y 100000 → Rat.divInt X Y = Rat.divInt x y →
          IsInt σ4 (.agg #[.bool n5, .slice b5 m5 c5]) X → IsInt σ4 (.agg #[.bool n6, .slice b6 m6 c6]) Y → Sym.look cxH σ4 σ2.next = some (.row [.bool n5, .slice b5 m5 c5] 35) → Sym.look cxH σ4 (σ2.next + 1) = some (.row [.bool n6, .slice b6 m6 c6] 35) →
          Sym.look cxH σ4 (σ.next + 1) = some (.row [.bool false, .slice none 0 0, .bool false, .slice none 0 0] 37) →
          g 2 = .pointer (some ⟨σ.next + 1, 0, none⟩) → g 3 = .pointer (some ⟨σ2.next, 0, none⟩) → g 4 = .pointer (some ⟨σ2.next + 1, 0, none⟩) → Q .normal g σ4 := by
        subst hQ
        clear j1 j2 ha3 hb3 E k0 ha hb ha2 g1 g2 g21 l3
        intro g σ4 X Y n5 b5 m5 c5 n6 b6 m6 c6 E hn4 hY hsX hsY hXY hX4 hY4 j1 j2 k0 g2 g3 g4
        have l4 := E.fresh_le
        simp (disch := first | exact sideD | fail) only [go_sem, g2, g3, g4, j1, j2, lo_35]
        apply use
        case hl => exact sideX
        case h => exact rgcd_ok (isInt_g hX4 hsX) (isInt_g hY4 hsY)
        rintro vg σ5 hg e5 l5
        have n_e5 := e5.next
        try simp only [add_next, set_next, fresh_next, low_next, lw_next] at n_e5
        obtain ⟨G, hG⟩ : ∃ G : Nat, G = Nat.gcd X.natAbs Y.natAbs := ⟨_, rfl⟩
        rw [← hG] at hg
        have hG0 : (G : Int) ≠ 0 := by
          intro h
          have h' : G = 0 := by omega
          rw [hG] at h'
          have := (Nat.gcd_eq_zero_iff.1 h').2
          omega
        have hGs : Sz (G : Int) 100000 := by
          refine Nat.lt_of_le_of_lt ?_ hsY
          rw [hG]
          exact Nat.gcd_le_right _ (by omega)
        have hGg : ((Y.gcd X : Nat) : Int) = (G : Int) := by rw [hG, Int.gcd, Nat.gcd_comm]
        obtain ⟨lt1, lt2⟩ := low_terms X Y (by omega)
        have dv1 := signed_dvd_right X Y (by omega)
        have dv2 := signed_dvd_left X Y
        rw [hGg, Int.sign_eq_one_of_pos hY, Int.one_mul] at lt1 lt2 dv1 dv2
        rw [hXY] at lt1 lt2
        obtain ⟨b7, m7, c7, rfl⟩ := isInt_agg hg
        simp (disch := first | exact sideD | fail) only [go_sem, al_35, st_35]
        have hgA := isInt_set (cs' := [.bool (decide ((G : Int) < 0)), .slice b7 m7 c7]) (e' := 35) (isInt_ext hg ((Ext'.refl σ5).add (.row [.bool false, .slice none 0 0] 35))) (look_add rfl) rfl rfl
        obtain ⟨σ6, hσ6⟩ : ∃ σ6, σ6 = (σ5.add (.row [.bool false, .slice none 0 0] 35)).set σ5.next (.row [.bool (decide ((G : Int) < 0)), .slice b7 m7 c7] 35) := ⟨_, rfl⟩
        have e6 : Ext' σ5 σ6 := by rw [hσ6]; exact ((Ext'.refl σ5).add _).set _ (Nat.le_refl _)
        have k4 : Sym.look cxH σ6 σ5.next = some (.row [.bool (decide ((G : Int) < 0)), .slice b7 m7 c7] 35) := by rw [hσ6]; exact look_set rfl
        have hn6 : σ6.next = σ5.next + 1 := by rw [hσ6, set_next, add_next]
        rw [← hσ6] at hgA
        rw [← hσ6]
        have l6 := e6.le l5
        have gX := isInt_g (isInt_ext (isInt_ext hX4 e5) e6) hsX
        have gY := isInt_g (isInt_ext (isInt_ext hY4 e5) e6) hsY
        have gG := isInt_g hgA hGs
        have E6 := (E.trans e5).trans e6
        have hlt4 : σ2.next + 1 < σ5.next := by omega
        clear hσ6
        simp (disch := first | exact sideD | fail) only [go_sem, g2, g3, g4, e6.look, e5.look, j1, k4, lo_35]
        apply use
        case hl => exact sideX
        case h => exact rdivMod_ok gX gG hG0 dv1
        rintro _ σ7 ⟨q1, r1, rfl, hq1, hr1⟩ e7 l7
        have n_e7 := e7.next
        try simp only [add_next, set_next, fresh_next, low_next, lw_next] at n_e7
        rw [← lt1] at hq1
        obtain ⟨b8, m8, c8, rfl⟩ := isInt_agg hq1
        obtain ⟨br1, mr1, cr1, rfl⟩ := isInt_agg hr1
        have j7 : Sym.look cxH σ7 σ2.next = some (.row [.bool n5, .slice b5 m5 c5] 35) := by simp (disch := first | exact sideD | fail) only [go_sem, e7.look, e6.look, e5.look, j1]
        have hq1' := isInt_set (cs' := [.bool (decide ((Rat.divInt x y).num < 0)), .slice b8 m8 c8]) (e' := 35) hq1 j7 rfl rfl
        have gY7 := gInt_set (cs' := [.bool (decide ((Rat.divInt x y).num < 0)), .slice b8 m8 c8]) (e' := 35) (gInt_ext gY e7) j7 rfl rfl
        have gG7 := gInt_set (cs' := [.bool (decide ((Rat.divInt x y).num < 0)), .slice b8 m8 c8]) (e' := 35) (gInt_ext gG e7) j7 rfl rfl
        simp (disch := first | exact sideD | fail) only [go_sem, g3, j7, st_35]
        obtain ⟨σ8, hσ8⟩ : ∃ σ8, σ8 = σ7.set σ2.next (.row [.bool (decide ((Rat.divInt x y).num < 0)), .slice b8 m8 c8] 35) := ⟨_, rfl⟩
        have E8 : Ext' σ.fresh σ8 := by rw [hσ8]; exact (E6.trans e7).set _ (by show σ.next ≤ _; omega)
        have j8 : Sym.look cxH σ8 σ2.next = some (.row [.bool (decide ((Rat.divInt x y).num < 0)), .slice b8 m8 c8] 35) := by rw [hσ8]; exact look_set rfl
        have j9 : Sym.look cxH σ8 (σ2.next + 1) = some (.row [.bool n6, .slice b6 m6 c6] 35) := by
          rw [hσ8]
          simp (disch := first | exact sideD | fail) only [go_sem, e7.look, e6.look, e5.look, j2]
        have j10 : Sym.look cxH σ8 σ5.next = some (.row [.bool (decide ((G : Int) < 0)), .slice b7 m7 c7] 35) := by
          rw [hσ8]
          simp (disch := first | exact sideD | fail) only [go_sem, e7.look, k4]
        have j11 : Sym.look cxH σ8 (σ.next + 1) = some (.row [.bool false, .slice none 0 0, .bool false, .slice none 0 0] 37) := by
          rw [hσ8]
          simp (disch := first | exact sideD | fail) only [go_sem, e7.look, e6.look, e5.look, k0]
        have hn8 : σ8.next = σ7.next := by rw [hσ8, set_next]
        rw [← hσ8] at hq1' gY7 gG7
        rw [← hσ8]
        have l8 := E8.fresh_le
        simp (disch := first | exact sideD | fail) only [go_sem, g2, g3, g4, j9, j10, lo_35]
        apply use
        case hl => exact sideX
        case h => exact rdivMod_ok gY7 gG7 hG0 dv2
        rintro _ σ9 ⟨q2, r2, rfl, hq2, hr2⟩ e9 l9
        have n_e9 := e9.next
        try simp only [add_next, set_next, fresh_next, low_next, lw_next] at n_e9
        rw [← lt2] at hq2
        obtain ⟨b9, m9, c9, rfl⟩ := isInt_agg hq2
        obtain ⟨br2, mr2, cr2, rfl⟩ := isInt_agg hr2
        have j12 : Sym.look cxH σ9 (σ2.next + 1) = some (.row [.bool n6, .slice b6 m6 c6] 35) := by simp (disch := first | exact sideD | fail) only [go_sem, e9.look, j9]
        have hq2' := isInt_set (cs' := [.bool (decide ((((Rat.divInt x y).den : Nat) : Int) < 0)), .slice b9 m9 c9]) (e' := 35) hq2 j12 rfl rfl
        have hq1'' := isInt_set (cs' := [.bool (decide ((((Rat.divInt x y).den : Nat) : Int) < 0)), .slice b9 m9 c9]) (e' := 35) (isInt_ext hq1' e9) j12 rfl rfl
        have E10 : Ext' σ.fresh (σ9.set (σ2.next + 1) (.row [.bool (decide ((((Rat.divInt x y).den : Nat) : Int) < 0)), .slice b9 m9 c9] 35)) := (E8.trans e9).set _ (by show σ.next ≤ _; omega)
        have hF : IsFrac (σ9.set (σ2.next + 1) (.row [.bool (decide ((((Rat.divInt x y).den : Nat) : Int) < 0)), .slice b9 m9 c9] 35)) (.agg #[.bool (decide ((Rat.divInt x y).num < 0)), .slice b8 m8 c8, .bool (decide ((((Rat.divInt x y).den : Nat) : Int) < 0)), .slice b9 m9 c9]) (Rat.divInt x y) := ⟨_, _, _, _, _, _, _, _, rfl, hq1'', hq2'⟩
        simp (disch := first | exact sideD | fail) only [go_sem, g2, g3, g4, j12, st_35, e9.look, j8, lo_35, bd_37]
        have hc : Sym.look cxH (σ9.set (σ2.next + 1) (.row [.bool (decide ((((Rat.divInt x y).den : Nat) : Int) < 0)), .slice b9 m9 c9] 35)) (σ.next + 1) = some (.row [.bool false, .slice none 0 0, .bool false, .slice none 0 0] 37) := by simp (disch := first | exact sideD | fail) only [go_sem, e9.look, j11]
        simp (disch := first | exact sideD | fail) only [go_sem, e9.look, j11, st_37, g2, lo_37]
        exact ⟨isFrac_back (isFrac_set hF hc rfl rfl), back_ext (E10.set _ (by show σ.next ≤ _; omega))⟩
      by_cases hneg : y < 0
      · have t1 : decide (y < 0) = true := decide_eq_true hneg
        simp (disch := first | exact sideD | fail) only [go_sem, t1, j1, lo_35]
        apply useD
        case hl => exact sideX
        case h => exact rNegate_ok (isInt_g ha3 (hs1.le hk))
        case hR => exact fun _ _ _ h => h
        rintro vn σ4 hn e4 l4
        have n_e4 := e4.next
        try simp only [add_next, set_next, fresh_next, low_next, lw_next] at n_e4
        have hb4 := isInt_ext hb3 e4
        simp (disch := first | exact sideD | fail) only [go_sem, e4.look, j2, lo_35]
        apply useD
        case hl => exact sideX
        case h => exact rNegate_ok (isInt_g hb4 (hs2.le hk))
        case hR => exact fun _ _ _ h => h
        rintro vd σ5 hd e5 l5
        have n_e5 := e5.next
        try simp only [add_next, set_next, fresh_next, low_next, lw_next] at n_e5
        have hn5 := isInt_ext hn e5
        obtain ⟨b7, m7, c7, rfl⟩ := isInt_agg hn
        obtain ⟨b8, m8, c8, rfl⟩ := isInt_agg hd
        have j1' : Sym.look cxH σ5 σ2.next = some (.row [.bool (decide (x < 0)), .slice bx mx cx'] 35) := by simp (disch := first | exact sideD | fail) only [go_sem, e5.look, e4.look, j1]
        have j2' : Sym.look cxH σ5 (σ2.next + 1) = some (.row [.bool (decide (y < 0)), .slice by' my cy] 35) := by simp (disch := first | exact sideD | fail) only [go_sem, e5.look, e4.look, j2]
        simp (disch := first | exact sideD | fail) only [go_sem, j1', j2', st_35]
        have j3 : Sym.look cxH (σ5.set σ2.next (.row [.bool (decide (-x < 0)), .slice b7 m7 c7] 35)) (σ2.next + 1) = some (.row [.bool (decide (y < 0)), .slice by' my cy] 35) := by simp (disch := first | exact sideD | fail) only [go_sem, j2']
        have hA := isInt_set (cs' := [.bool (decide (-y < 0)), .slice b8 m8 c8]) (e' := 35) (isInt_set (cs' := [.bool (decide (-x < 0)), .slice b7 m7 c7]) (e' := 35) hn5 j1' rfl rfl) j3 rfl rfl
        have hB := isInt_set (cs' := [.bool (decide (-y < 0)), .slice b8 m8 c8]) (e' := 35) (isInt_set (cs' := [.bool (decide (-x < 0)), .slice b7 m7 c7]) (e' := 35) hd j1' rfl rfl) j3 rfl rfl
        exact rest _ _ (-x) (-y) _ _ _ _ _ _ _ _ ((((E.trans e4).trans e5).set _ (by show σ.next ≤ _; omega)).set _ (by show σ.next ≤ _; omega)) (by rw [set_next, set_next]; omega) (by omega) (hs1.neg.le hk) (hs2.neg.le hk) (Rat.neg_divInt_neg x y) hA hB (by simp (disch := first | exact sideD | fail) only [go_sem]) (by simp (disch := first | exact sideD | fail) only [go_sem]) (by simp (disch := first | exact sideD | fail) only [go_sem, e5.look, e4.look, k0]) (by simp (disch := first | exact sideD | fail) only [go_sem]) (by simp (disch := first | exact sideD | fail) only [go_sem]) (by simp (disch := first | exact sideD | fail) only [go_sem])
      · have t1 : decide (y < 0) = false := decide_eq_false hneg
        simp (disch := first | exact sideD | fail) only [go_sem, t1]
        exact rest _ _ x y _ _ _ _ _ _ _ _ E (by omega) (by omega) (hs1.le hk) (hs2.le hk) rfl ha3 hb3 j1 j2 k0 (by simp (disch := first | exact sideD | fail) only [go_sem]) (by simp (disch := first | exact sideD | fail) only [go_sem]) (by simp (disch := first | exact sideD | fail) only [go_sem])
end
section
theorem gFrac_rsz {σ : St} {v : Value} {q : Rat} {k : Nat} (h : GFrac σ v q k) (hk : 1 ≤ k) : RSz q k := by
  obtain ⟨n1, b1, m1, c1, n2, b2, m2, c2, num, den, rfl, h1, h2, rfl, hs1, hs2⟩ := h
  exact rsz_divInt hs1 hs2 hk
theorem isFrac_parts {σ : St} {n1 n2 : Bool} {b1 b2 : Option Addr} {m1 c1 m2 c2 : Nat} {q : Rat} (h : IsFrac σ (.agg #[.bool n1, .slice b1 m1 c1, .bool n2, .slice b2 m2 c2]) q) :
    IsInt σ (.agg #[.bool n1, .slice b1 m1 c1]) q.num ∧ IsInt σ (.agg #[.bool n2, .slice b2 m2 c2]) q.den := by
  obtain ⟨n1', b1', m1', c1', n2', b2', m2', c2', eqa, h1, h2⟩ := h
  cases eqa
  exact ⟨h1, h2⟩
theorem rfromInt_ok {σ : St} {v : Value} {x : Int} (h : GInt σ v x) : C cxH 52 [v] σ fun v σ' => IsFrac σ' v x ∧ Ext' σ σ' := by
  have hsx := gInt_sz h
  obtain ⟨na, ba, ma, ca, la, rfl, ha, hna, hxe⟩ := h
  refine C_in (N := 7) (rs := [.cell 2 37]) fn_52 (by rfl) (by rfl) (by rfl) (by rfl) (by rfl) (by rfl) ?_
  have e0 : Ext' σ.fresh ((σ.fresh.add (.row [.bool na, .slice ba ma ca] 35)).add (.row [.bool false, .slice none 0 0, .bool false, .slice none 0 0] 37)) := ((Ext'.refl _).add _).add _
  have ga : GInt _ _ x := ⟨na, ba, ma, ca, la, rfl, (ha.ext (Ext'.to_fresh σ)).ext e0, hna, hxe⟩
  simp (disch := first | exact sideD | fail) only [go_sem, al_37, lo_35]
  apply useD
  case hl => exact sideX
  case h => exact rOne_ok
  case hR => exact fun _ _ _ h => h
  rintro vo σ1 ho e1 l1
  have n_e1 := e1.next
  try simp only [add_next, set_next, fresh_next, low_next, lw_next] at n_e1
  have ga1 := gInt_ext ga e1
  obtain ⟨b5, n5, c5, rfl⟩ := isInt_agg ho
  have gF : GFrac σ1 (.agg #[.bool na, .slice ba ma ca, .bool (decide ((1 : Int) < 0)), .slice b5 n5 c5]) (Rat.divInt x 1) 100000 := ⟨_, _, _, _, _, _, _, _, x, 1, rfl, ga1, isInt_g ho (one_lt_B _ (by decide)), rfl, hsx, one_lt_B _ (by decide)⟩
  simp (disch := first | exact sideD | fail) only [go_sem, bd_37]
  apply useD
  case hl => exact sideX
  case h => exact rReduce_ok gF (Nat.le_refl _)
  case hR => exact fun _ _ _ h => h
  rintro vf σ2 hF e2 l2
  have n_e2 := e2.next
  try simp only [add_next, set_next, fresh_next, low_next, lw_next] at n_e2
  have hx : Rat.divInt x 1 = (x : Rat) := Rat.num_divInt_den (x : Rat)
  rw [hx] at hF
  have hc : Sym.look cxH σ2 (σ.next + 1) = some (.row [.bool false, .slice none 0 0, .bool false, .slice none 0 0] 37) := by simp (disch := first | exact sideD | fail) only [go_sem, e2.look, e1.look]
  obtain ⟨n31, b31, m31, c31, n32, b32, m32, c32, rfl, hq4, hq5⟩ := isFrac_put (σ0 := σ) hF hc ((e0.trans e1).trans e2) (by omega)
  simp (disch := first | exact sideD | fail) only [go_sem, hc, e2.look, e1.look, st_37, lo_37]
  exact ⟨hq4, hq5⟩
theorem rwhole_ok {σ : St} {a : Int} (h1 : -9223372036854775808 ≤ a) (h2 : a < 9223372036854775808) : C cxH 23 [.int .i64 a] σ fun v σ' => IsFrac σ' v a ∧ Ext' σ σ' := by
  refine C_in (N := 6) (rs := [.cell 2 37]) fn_23 (by rfl) (by rfl) (by rfl) (by rfl) (by rfl) (by rfl) ?_
  have e0 : Ext' σ.fresh (σ.fresh.add (.row [.bool false, .slice none 0 0, .bool false, .slice none 0 0] 37)) := (Ext'.refl _).add _
  simp (disch := first | exact sideD | fail) only [go_sem, al_37]
  apply use
  case hl => exact sideX
  case h => exact rFromInt64_ok h1 h2
  rintro vo σ1 ho e1 l1
  have n_e1 := e1.next
  try simp only [add_next, set_next, fresh_next, low_next, lw_next] at n_e1
  obtain ⟨b5, n5, c5, rfl⟩ := isInt_agg ho
  simp (disch := first | exact sideD | fail) only [go_sem]
  apply use
  case hl => exact sideX
  case h => exact rfromInt_ok (isInt_g ho ((sz_64 h1 h2).le (by decide)))
  rintro vf σ2 hF e2 l2
  have n_e2 := e2.next
  try simp only [add_next, set_next, fresh_next, low_next, lw_next] at n_e2
  have hc : Sym.look cxH σ2 (σ.next) = some (.row [.bool false, .slice none 0 0, .bool false, .slice none 0 0] 37) := by simp (disch := first | exact sideD | fail) only [go_sem, e2.look, e1.look]
  obtain ⟨n31, b31, m31, c31, n32, b32, m32, c32, rfl, hq4, hq5⟩ := isFrac_put (σ0 := σ) hF hc ((e0.trans e1).trans e2) (by omega)
  simp (disch := first | exact sideD | fail) only [go_sem, hc, e2.look, e1.look, st_37, lo_37]
  exact ⟨hq4, hq5⟩
theorem rfmul_ok {σ : St} {v w : Value} {p q : Rat} {k : Nat} (h : GFrac σ v p k) (h2 : GFrac σ w q k) (hk : k ≤ 20000) : C cxH 63 [v, w] σ fun v σ' => IsFrac σ' v (p * q) ∧ Ext' σ σ' := by
  obtain ⟨n1, b1, m1, c1, n2, b2, m2, c2, x, y, rfl, hx, hy, rfl, sx, sy⟩ := h
  obtain ⟨n3, b3, m3, c3, n4, b4, m4, c4, z, w, rfl, hz, hw, rfl, sz, sw⟩ := h2
  refine C_in (N := 17) (rs := [.cell 4 37]) fn_63 (by rfl) (by rfl) (by rfl) (by rfl) (by rfl) (by rfl) ?_
  have e0 : Ext' σ.fresh (((σ.fresh.add (.row [.bool n1, .slice b1 m1 c1, .bool n2, .slice b2 m2 c2] 37)).add (.row [.bool n3, .slice b3 m3 c3, .bool n4, .slice b4 m4 c4] 37)).add (.row [.bool false, .slice none 0 0, .bool false, .slice none 0 0] 37)) := (((Ext'.refl _).add _).add _).add _
  have hx' := gInt_ext (gInt_ext hx (Ext'.to_fresh σ)) e0
  have hy' := gInt_ext (gInt_ext hy (Ext'.to_fresh σ)) e0
  have hz' := gInt_ext (gInt_ext hz (Ext'.to_fresh σ)) e0
  have hw' := gInt_ext (gInt_ext hw (Ext'.to_fresh σ)) e0
  simp (disch := first | exact sideD | fail) only [go_sem, al_37, fa_37_0, lo_35_a]
  apply useD
  case hl => exact sideX
  case h => exact rMulI_ok hx' hz'
  case hR => exact fun _ _ _ h => h
  rintro va σ1 h1 e1 l1
  have n_e1 := e1.next
  try simp only [add_next, set_next, fresh_next, low_next, lw_next] at n_e1
  have hy1 := gInt_ext hy' e1
  have hw1 := gInt_ext hw' e1
  simp (disch := first | exact sideD | fail) only [go_sem, e1.look, fa_37_1, lo_35_b]
  apply useD
  case hl => exact sideX
  case h => exact rMulI_ok hy1 hw1
  case hR => exact fun _ _ _ h => h
  rintro vb σ2 h2 e2 l2
  have n_e2 := e2.next
  try simp only [add_next, set_next, fresh_next, low_next, lw_next] at n_e2
  have h1' := isInt_ext h1 e2
  obtain ⟨b5, m5, c5, rfl⟩ := isInt_agg h1
  obtain ⟨b6, m6, c6, rfl⟩ := isInt_agg h2
  have gF : GFrac σ2 (.agg #[.bool (decide (x * z < 0)), .slice b5 m5 c5, .bool (decide (y * w < 0)), .slice b6 m6 c6]) (Rat.divInt (x * z) (y * w)) (k + k) :=
    ⟨_, _, _, _, _, _, _, _, _, _, rfl, isInt_g h1' ((sx.mul sz).le (by omega)), isInt_g h2 ((sy.mul sw).le (by omega)), rfl, sx.mul sz, sy.mul sw⟩
  simp (disch := first | exact sideD | fail) only [go_sem, bd_37]
  apply useD
  case hl => exact sideX
  case h => exact rReduce_ok gF (by omega)
  case hR => exact fun _ _ _ h => h
  rintro vf σ3 hF e3 l3
  have n_e3 := e3.next
  try simp only [add_next, set_next, fresh_next, low_next, lw_next] at n_e3
  rw [← Rat.divInt_mul_divInt] at hF
  have hc : Sym.look cxH σ3 (σ.next + 1 + 1) = some (.row [.bool false, .slice none 0 0, .bool false, .slice none 0 0] 37) := by simp (disch := first | exact sideD | fail) only [go_sem, e3.look, e2.look, e1.look]
  obtain ⟨n31, b31, m31, c31, n32, b32, m32, c32, rfl, hq4, hq5⟩ := isFrac_put (σ0 := σ) hF hc (((e0.trans e1).trans e2).trans e3) (by omega)
  simp (disch := first | exact sideD | fail) only [go_sem, hc, e3.look, e2.look, e1.look, st_37, lo_37]
  exact ⟨hq4, hq5⟩
theorem rfneg_ok {σ : St} {v : Value} {p : Rat} {k : Nat} (h : GFrac σ v p k) (hk : k ≤ 100000) : C cxH 102 [v] σ fun v σ' => IsFrac σ' v (-p) ∧ Ext' σ σ' := by
  obtain ⟨n1, b1, m1, c1, n2, b2, m2, c2, x, y, rfl, hx, hy, rfl, sx, sy⟩ := h
  refine C_in (N := 10) (rs := [.cell 2 37]) fn_102 (by rfl) (by rfl) (by rfl) (by rfl) (by rfl) (by rfl) ?_
  have e0 : Ext' σ.fresh ((σ.fresh.add (.row [.bool n1, .slice b1 m1 c1, .bool n2, .slice b2 m2 c2] 37)).add (.row [.bool false, .slice none 0 0, .bool false, .slice none 0 0] 37)) := ((Ext'.refl _).add _).add _
  have hx' := gInt_ext (gInt_ext hx (Ext'.to_fresh σ)) e0
  have hy' := gInt_ext (gInt_ext hy (Ext'.to_fresh σ)) e0
  simp (disch := first | exact sideD | fail) only [go_sem, al_37, fa_37_0, lo_35_a]
  apply useD
  case hl => exact sideX
  case h => exact rNegate_ok hx'
  case hR => exact fun _ _ _ h => h
  rintro va σ1 h1 e1 l1
  have n_e1 := e1.next
  try simp only [add_next, set_next, fresh_next, low_next, lw_next] at n_e1
  have hy1 := gInt_ext hy' e1
  obtain ⟨b5, m5, c5, rfl⟩ := isInt_agg h1
  have gF : GFrac σ1 (.agg #[.bool (decide (-x < 0)), .slice b5 m5 c5, .bool n2, .slice b2 m2 c2]) (Rat.divInt (-x) y) k :=
    ⟨_, _, _, _, _, _, _, _, _, _, rfl, isInt_g h1 (sx.neg.le hk), hy1, rfl, sx.neg, sy⟩
  simp (disch := first | exact sideD | fail) only [go_sem, e1.look, fa_37_1, lo_35_b, bd_37]
  apply useD
  case hl => exact sideX
  case h => exact rReduce_ok gF hk
  case hR => exact fun _ _ _ h => h
  rintro vf σ3 hF e3 l3
  have n_e3 := e3.next
  try simp only [add_next, set_next, fresh_next, low_next, lw_next] at n_e3
  rw [← Rat.neg_divInt] at hF
  have hc : Sym.look cxH σ3 (σ.next + 1) = some (.row [.bool false, .slice none 0 0, .bool false, .slice none 0 0] 37) := by simp (disch := first | exact sideD | fail) only [go_sem, e3.look, e1.look]
  obtain ⟨n31, b31, m31, c31, n32, b32, m32, c32, rfl, hq4, hq5⟩ := isFrac_put (σ0 := σ) hF hc ((e0.trans e1).trans e3) (by omega)
  simp (disch := first | exact sideD | fail) only [go_sem, hc, e3.look, e1.look, st_37, lo_37]
  exact ⟨hq4, hq5⟩
theorem rfadd_ok {σ : St} {v w : Value} {p q : Rat} {k : Nat} (h : GFrac σ v p k) (h2 : GFrac σ w q k) (hk : k ≤ 20000) (hk1 : 1 ≤ k) : C cxH 101 [v, w] σ fun v σ' => IsFrac σ' v (p + q) ∧ Ext' σ σ' := by
  have sp := gFrac_rsz h hk1
  have sq := gFrac_rsz h2 hk1
  have h' := h
  have h2' := h2
  obtain ⟨n1, b1, m1, c1, n2, b2, m2, c2, numa, dena, rfl, -⟩ := h'
  obtain ⟨n3, b3, m3, c3, n4, b4, m4, c4, numb, denb, rfl, -⟩ := h2'
  refine C_in (N := 27) (rs := [.cell 4 37]) fn_101 (by rfl) (by rfl) (by rfl) (by rfl) (by rfl) (by rfl) ?_
  have e0 : Ext' σ.fresh (((σ.fresh.add (.row [.bool n1, .slice b1 m1 c1, .bool n2, .slice b2 m2 c2] 37)).add (.row [.bool n3, .slice b3 m3 c3, .bool n4, .slice b4 m4 c4] 37)).add (.row [.bool false, .slice none 0 0, .bool false, .slice none 0 0] 37)) := (((Ext'.refl _).add _).add _).add _
  have ga := gFrac_ext (gFrac_ext h (Ext'.to_fresh σ)) e0
  have gb := gFrac_ext (gFrac_ext h2 (Ext'.to_fresh σ)) e0
  simp (disch := first | exact sideD | fail) only [go_sem, al_37, lo_37]
  apply useD
  case hl => exact sideX
  case h => exact rReduce_ok ga (by omega)
  case hR => exact fun _ _ _ h => h
  rintro va σ1 ha e1 l1
  have n_e1 := e1.next
  try simp only [add_next, set_next, fresh_next, low_next, lw_next] at n_e1
  have gb1 := gFrac_ext gb e1
  simp (disch := first | exact sideD | fail) only [go_sem, e1.look, lo_37]
  apply useD
  case hl => exact sideX
  case h => exact rReduce_ok gb1 (by omega)
  case hR => exact fun _ _ _ h => h
  rintro vb σ2 hb e2 l2
  have n_e2 := e2.next
  try simp only [add_next, set_next, fresh_next, low_next, lw_next] at n_e2
  have ha2 := isFrac_ext ha e2
  have E := (e0.trans e1).trans e2
  have k1 : Sym.look cxH σ2 σ.next = some (.row [.bool n1, .slice b1 m1 c1, .bool n2, .slice b2 m2 c2] 37) := by simp (disch := first | exact sideD | fail) only [go_sem, e2.look, e1.look]
  have k2 : Sym.look cxH σ2 (σ.next + 1) = some (.row [.bool n3, .slice b3 m3 c3, .bool n4, .slice b4 m4 c4] 37) := by simp (disch := first | exact sideD | fail) only [go_sem, e2.look, e1.look]
  have k3 : Sym.look cxH σ2 (σ.next + 1 + 1) = some (.row [.bool false, .slice none 0 0, .bool false, .slice none 0 0] 37) := by simp (disch := first | exact sideD | fail) only [go_sem, e2.look, e1.look]
  obtain ⟨s1, bx, mx, cx', s2, by', my, cy, rfl, -⟩ := id ha
  obtain ⟨s3, bz, mz, cz, s4, bw, mw, cw, rfl, -⟩ := id hb
  have ha3 := isFrac_set (cs' := [.bool s1, .slice bx mx cx', .bool s2, .slice by' my cy]) (e' := 37) ha2 k1 rfl rfl
  have hb3 := isFrac_set (cs' := [.bool s1, .slice bx mx cx', .bool s2, .slice by' my cy]) (e' := 37) hb k1 rfl rfl
  have k2' : Sym.look cxH (σ2.set σ.next (.row [.bool s1, .slice bx mx cx', .bool s2, .slice by' my cy] 37)) (σ.next + 1) = some (.row [.bool n3, .slice b3 m3 c3, .bool n4, .slice b4 m4 c4] 37) := by simp (disch := first | exact sideD | fail) only [go_sem, k2]
  have ha4 := isFrac_set (cs' := [.bool s3, .slice bz mz cz, .bool s4, .slice bw mw cw]) (e' := 37) ha3 k2' rfl rfl
  have hb4 := isFrac_set (cs' := [.bool s3, .slice bz mz cz, .bool s4, .slice bw mw cw]) (e' := 37) hb3 k2' rfl rfl
  simp (disch := first | exact sideX | fail) only [go_sem, k1, k2, st_37]
  generalize hσ3 : (σ2.set σ.next (.row [.bool s1, .slice bx mx cx', .bool s2, .slice by' my cy] 37)).set (σ.next + 1) (.row [.bool s3, .slice bz mz cz, .bool s4, .slice bw mw cw] 37) = σ3
  have j1 : Sym.look cxH σ3 σ.next = some (.row [.bool s1, .slice bx mx cx', .bool s2, .slice by' my cy] 37) := by
    rw [← hσ3]
    simp (disch := first | exact sideD | fail) only [go_sem]
  have j2 : Sym.look cxH σ3 (σ.next + 1) = some (.row [.bool s3, .slice bz mz cz, .bool s4, .slice bw mw cw] 37) := by
    rw [← hσ3]
    simp (disch := first | exact sideD | fail) only [go_sem]
  have j3 : Sym.look cxH σ3 (σ.next + 1 + 1) = some (.row [.bool false, .slice none 0 0, .bool false, .slice none 0 0] 37) := by
    rw [← hσ3]
    simp (disch := first | exact sideD | fail) only [go_sem, k3]
  have E3 : Ext' σ.fresh σ3 := by rw [← hσ3]; exact (E.set _ (Nat.le_refl _)).set _ (Nat.le_succ _)
  have hn3 : σ.next + 1 + 1 < σ3.next := by
    rw [← hσ3, set_next, set_next]
    omega
  rw [hσ3] at ha4 hb4
  have l3 := E3.fresh_le
  clear hσ3 E e0 e1 e2 k1 k2 k3 k2' ha3 hb3 ha2 ha hb
  have hp1 := (isFrac_parts ha4).1
  have hp2 := (isFrac_parts ha4).2
  have hq1 := (isFrac_parts hb4).1
  have hq2 := (isFrac_parts hb4).2
  have gp1 := isInt_g hp1 (sp.1.le (by omega))
  have gp2 := isInt_g hp2 (sp.2.le (by omega))
  have gq1 := isInt_g hq1 (sq.1.le (by omega))
  have gq2 := isInt_g hq2 (sq.2.le (by omega))
  simp (disch := first | exact sideD | fail) only [go_sem, j1, j2, fa_37_0, fa_37_1, lo_35_a, lo_35_b]
  apply useD
  case hl => exact sideX
  case h => exact rMulI_ok gp1 gq2
  case hR => exact fun _ _ _ h => h
  rintro v4 σ4 h4 e4 l4
  have n_e4 := e4.next
  try simp only [add_next, set_next, fresh_next, low_next, lw_next] at n_e4
  have s4' := sp.1.mul sq.2
  have gq14 := gInt_ext gq1 e4
  have gp24 := gInt_ext gp2 e4
  simp (disch := first | exact sideD | fail) only [go_sem, e4.look, j1, j2, fa_37_0, fa_37_1, lo_35_a, lo_35_b]
  apply useD
  case hl => exact sideX
  case h => exact rMulI_ok gq14 gp24
  case hR => exact fun _ _ _ h => h
  rintro v5 σ5 h5 e5 l5
  have n_e5 := e5.next
  try simp only [add_next, set_next, fresh_next, low_next, lw_next] at n_e5
  have s5' := sq.1.mul sp.2
  have g4 := isInt_g (isInt_ext h4 e5) (s4'.le (by omega))
  have g5 := isInt_g h5 (s5'.le (by omega))
  simp (disch := first | exact sideD | fail) only [go_sem]
  apply useD
  case hl => exact sideX
  case h => exact rAddI_ok g4 g5
  case hR => exact fun _ _ _ h => h
  rintro v6 σ6 h6 e6 l6
  have n_e6 := e6.next
  try simp only [add_next, set_next, fresh_next, low_next, lw_next] at n_e6
  have s6' := s4'.add s5'
  have gp26 := gInt_ext (gInt_ext gp24 e5) e6
  have gq26 := gInt_ext (gInt_ext (gInt_ext gq2 e4) e5) e6
  simp (disch := first | exact sideD | fail) only [go_sem, e6.look, e5.look, e4.look, j1, j2, fa_37_1, lo_35_b]
  apply useD
  case hl => exact sideX
  case h => exact rMulI_ok gp26 gq26
  case hR => exact fun _ _ _ h => h
  rintro v7 σ7 h7 e7 l7
  have n_e7 := e7.next
  try simp only [add_next, set_next, fresh_next, low_next, lw_next] at n_e7
  have s7' := sp.2.mul sq.2
  have h6' := isInt_ext h6 e7
  obtain ⟨b8, m8, c8, rfl⟩ := isInt_agg h6
  obtain ⟨b9, m9, c9, rfl⟩ := isInt_agg h7
  have gF : GFrac σ7 _ (Rat.divInt (p.num * q.den + q.num * p.den) (p.den * q.den)) (k + k + 1) :=
    ⟨_, _, _, _, _, _, _, _, _, _, rfl, isInt_g h6' (s6'.le (by omega)), isInt_g h7 (s7'.le (by omega)), rfl, s6'.le (by omega), s7'.le (by omega)⟩
  simp (disch := first | exact sideD | fail) only [go_sem, bd_37]
  apply useD
  case hl => exact sideX
  case h => exact rReduce_ok gF (by omega)
  case hR => exact fun _ _ _ h => h
  rintro vf σ8 hF e8 l8
  have n_e8 := e8.next
  try simp only [add_next, set_next, fresh_next, low_next, lw_next] at n_e8
  have hr : Rat.divInt (p.num * q.den + q.num * p.den) (p.den * q.den) = p + q := by
    have hp0 : (p.den : Int) ≠ 0 := by have := p.den_nz; omega
    have hq0 : (q.den : Int) ≠ 0 := by have := q.den_nz; omega
    rw [← Rat.divInt_add_divInt _ _ hp0 hq0, Rat.num_divInt_den, Rat.num_divInt_den]
  rw [hr] at hF
  have hc : Sym.look cxH σ8 (σ.next + 1 + 1) = some (.row [.bool false, .slice none 0 0, .bool false, .slice none 0 0] 37) := by simp (disch := first | exact sideD | fail) only [go_sem, e8.look, e7.look, e6.look, e5.look, e4.look, j3]
  obtain ⟨n31, b31, m31, c31, n32, b32, m32, c32, rfl, hq4, hq5⟩ := isFrac_put (σ0 := σ) hF hc (((((E3.trans e4).trans e5).trans e6).trans e7).trans e8) (by omega)
  simp (disch := first | exact sideD | fail) only [go_sem, hc, e8.look, e7.look, e6.look, e5.look, e4.look, j3, st_37, lo_37]
  exact ⟨hq4, hq5⟩
theorem rfsub_ok {σ : St} {v w : Value} {p q : Rat} {k : Nat} (h : GFrac σ v p k) (h2 : GFrac σ w q k) (hk : k ≤ 20000) (hk1 : 1 ≤ k) : C cxH 62 [v, w] σ fun v σ' => IsFrac σ' v (p - q) ∧ Ext' σ σ' := by
  have sq := gFrac_rsz h2 hk1
  have h' := h
  have h2' := h2
  obtain ⟨n1, b1, m1, c1, n2, b2, m2, c2, numa, dena, rfl, -⟩ := h'
  obtain ⟨n3, b3, m3, c3, n4, b4, m4, c4, numb, denb, rfl, -⟩ := h2'
  refine C_in (N := 9) (rs := [.cell 4 37]) fn_62 (by rfl) (by rfl) (by rfl) (by rfl) (by rfl) (by rfl) ?_
  have e0 : Ext' σ.fresh (((σ.fresh.add (.row [.bool n1, .slice b1 m1 c1, .bool n2, .slice b2 m2 c2] 37)).add (.row [.bool n3, .slice b3 m3 c3, .bool n4, .slice b4 m4 c4] 37)).add (.row [.bool false, .slice none 0 0, .bool false, .slice none 0 0] 37)) := (((Ext'.refl _).add _).add _).add _
  have ga := gFrac_ext (gFrac_ext h (Ext'.to_fresh σ)) e0
  have gb := gFrac_ext (gFrac_ext h2 (Ext'.to_fresh σ)) e0
  simp (disch := first | exact sideD | fail) only [go_sem, al_37, lo_37]
  apply useD
  case hl => exact sideX
  case h => exact rfneg_ok gb (by omega)
  case hR => exact fun _ _ _ h => h
  rintro va σ1 ha e1 l1
  have n_e1 := e1.next
  try simp only [add_next, set_next, fresh_next, low_next, lw_next] at n_e1
  have ga1 := gFrac_ext ga e1
  have gn := isFrac_g ha ⟨sq.1.neg, sq.2⟩ (by omega)
  simp (disch := first | exact sideD | fail) only [go_sem]
  apply useD
  case hl => exact sideX
  case h => exact rfadd_ok ga1 gn hk hk1
  case hR => exact fun _ _ _ h => h
  rintro vf σ2 hF e2 l2
  have n_e2 := e2.next
  try simp only [add_next, set_next, fresh_next, low_next, lw_next] at n_e2
  rw [← Rat.sub_eq_add_neg] at hF
  have hc : Sym.look cxH σ2 (σ.next + 1 + 1) = some (.row [.bool false, .slice none 0 0, .bool false, .slice none 0 0] 37) := by simp (disch := first | exact sideD | fail) only [go_sem, e2.look, e1.look]
  obtain ⟨n31, b31, m31, c31, n32, b32, m32, c32, rfl, hq4, hq5⟩ := isFrac_put (σ0 := σ) hF hc ((e0.trans e1).trans e2) (by omega)
  simp (disch := first | exact sideD | fail) only [go_sem, hc, e2.look, e1.look, st_37, lo_37]
  exact ⟨hq4, hq5⟩
theorem rfsign_ok {σ : St} {v : Value} {q : Rat} {k : Nat} (h : GFrac σ v q k) (hk : k ≤ 100000) (hk1 : 1 ≤ k) : C cxH 35 [v] σ fun v σ' => v = .int .i64 q.num.sign ∧ σ' = σ := by
  have sq := gFrac_rsz h hk1
  have h' := h
  obtain ⟨n1, b1, m1, c1, n2, b2, m2, c2, num, den, rfl, -⟩ := h'
  refine C_in (N := 7) (rs := [.tmp 2]) fn_35 (by rfl) (by rfl) (by rfl) (by rfl) (by rfl) (by rfl) ?_
  have e0 : Ext' σ.fresh (σ.fresh.add (.row [.bool n1, .slice b1 m1 c1, .bool n2, .slice b2 m2 c2] 37)) := (Ext'.refl _).add _
  have ga := gFrac_ext (gFrac_ext h (Ext'.to_fresh σ)) e0
  simp (disch := first | exact sideD | fail) only [go_sem, lo_37]
  apply use
  case hl => exact sideX
  case h => exact rReduce_ok ga hk
  rintro va σ1 ha e1 l1
  have n_e1 := e1.next
  try simp only [add_next, set_next, fresh_next, low_next, lw_next] at n_e1
  obtain ⟨s1, bx, mx, cx', s2, by', my, cy, rfl, hp1, hp2⟩ := ha
  simp (disch := first | exact sideD | fail) only [go_sem, fd_37_0]
  apply usep
  case h => exact rSign_ok (isInt_g hp1 (sq.1.le hk))
  rintro _ rfl
  simp (disch := first | exact sideD | fail) only [go_sem]
  exact ⟨trivial, back_plain (e0.trans e1) rfl⟩
end
end
end Go.Proofs.YtfdflggfffajaaaGreatDoor
