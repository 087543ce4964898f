/- Integers, third part: division of the given program, greatest common divisor. -/
import Derived.Test.YtfdflggfffajaaaGreatDoorIntB
set_option linter.unusedVariables false
set_option linter.unusedSimpArgs false
set_option linter.unusedSectionVars false
namespace Go.Proofs.YtfdflggfffajaaaGreatDoor
open Go Go.Num Go.Proofs
open Go.Sym hiding val
noncomputable section
attribute [local congr] blk_congr Wpick_congr Wgd_congr Wgd'_congr Wcond_congr Wbin_congr Wun_congr Wconv_congr Wext_congr Wfa_congr Wfd_congr Wia_congr Wld_congr Wlen_congr Wst_congr Wbox_congr WldO_congr WstO_congr Wmk_congr Wsl_congr Wap_congr Wbs_congr Wbd_congr Wfn_congr C_congr
set_option maxHeartbeats 2000000
section
theorem dg_mod {σ σ' : St} {p : Nat} {b : Option Addr} {n c : Nat} {l : List Nat} (h : Dg cxH σ b n c l) (hne : ∀ a, b = some a → a.block ≠ p) (m : Sym.Mod p σ σ') : Dg cxH σ' b n c l := by
  refine ⟨⟨h.sl.len, ?_, h.sl.nil, fun a ha => ?_⟩, h.lt⟩
  · rcases h.sl.cap with k | ⟨k1, k2, lo, k3, k4⟩
    · exact .inl k
    · exact .inr ⟨k1, Nat.lt_of_lt_of_le k2 m.nextC, lo, (m.caps _ k2).trans k3, k4⟩
  · obtain ⟨h2, k⟩ := h.sl.at' a ha
    exact ⟨Nat.lt_of_lt_of_le h2 m.next, fun hn => by
      obtain ⟨h1, o, h3, h5, h4⟩ := k hn
      exact ⟨h1, o, (m.look h2 (hne a ha)).trans h3, h5, h4⟩⟩
section
variable {pre win post : List Nat} {i y : Nat}
theorem win_get (hi : i < win.length) : (pre ++ win ++ post)[pre.length + i]? = some (win.getD i 0) := by
  rw [List.append_assoc, List.getElem?_append_right (Nat.le_add_right _ _), Nat.add_sub_cancel_left, List.getElem?_append_left hi, getD_some hi]
theorem win_set (hi : i < win.length) : (pre ++ win ++ post).set (pre.length + i) y = pre ++ win.set i y ++ post := by
  rw [List.append_assoc, List.set_append_right _ _ (Nat.le_add_right _ _), Nat.add_sub_cancel_left, List.set_append_left _ _ hi, List.append_assoc]
theorem win_len : (pre ++ win.set i y ++ post).length = (pre ++ win ++ post).length := by simp
theorem win_lt {pre' : List Nat} (h : ∀ x ∈ pre ++ win ++ post, x < B) (hw : ∀ x ∈ pre', x < B) : ∀ x ∈ pre ++ pre' ++ post, x < B := fun x hx => by
  simp only [List.mem_append] at h hx
  rcases hx with (h1 | h1) | h1
  · exact h x (.inl (.inl h1))
  · exact hw x h1
  · exact h x (.inr h1)
theorem win_ltw (h : ∀ x ∈ pre ++ win ++ post, x < B) : ∀ x ∈ win, x < B := fun x hx => h x (by simp [hx])
end
theorem red_step {w0 w lv : List Nat} {i q carry bor x t : Nat} (hi : i < w.length) (h : val w + q * val (lv.take i) = val w0 + B ^ i * (carry + bor)) (hx : x = lv.getD i 0) (ht : t = carry + q * x) (hw : ∀ x ∈ w, x < B) (hb : bor ≤ 1) :
    val (w.set i (sb (w.getD i 0) (t % B) bor)) + q * val (lv.take (i + 1)) = val w0 + B ^ (i + 1) * (t / B + sc (w.getD i 0) (t % B) bor) := by
  have h1 := val_set w i (sb (w.getD i 0) (t % B) bor) _ (getD_some hi)
  have h2 := sb_eq (lt_getD (k := i) hw) (Nat.mod_lt t B_pos) hb
  have h3 := congrArg (B ^ i * ·) h2
  simp only [Nat.mul_add] at h3
  have h4 : B ^ i * (t % B) + B ^ i * (B * (t / B)) = B ^ i * carry + B ^ i * (q * x) := by rw [← Nat.mul_add, Nat.mod_add_div, ht, Nat.mul_add]
  rw [Nat.mul_add] at h
  rw [val_take_getD, ← hx, Nat.mul_add q, Nat.pow_succ, Nat.mul_assoc, Nat.mul_add B, Nat.mul_add (B ^ i), Nat.mul_left_comm q]
  omega
theorem red_last {w0 w lv : List Nat} {n q carry bor : Nat} (hi : n < w.length) (h : val w + q * val (lv.take n) = val w0 + B ^ n * (carry + bor)) (hn : n = lv.length) (hc : carry < B) (hw : ∀ x ∈ w, x < B) (hb : bor ≤ 1) :
    val (w.set n (sb (w.getD n 0) carry bor)) + q * val lv = val w0 + B ^ (n + 1) * sc (w.getD n 0) carry bor := by
  have h1 := val_set w n (sb (w.getD n 0) carry bor) _ (getD_some hi)
  have h2 := sb_eq (lt_getD (k := n) hw) hc hb
  have h3 := congrArg (B ^ n * ·) h2
  simp only [Nat.mul_add] at h3
  rw [List.take_of_length_le (by omega), Nat.mul_add] at h
  rw [Nat.pow_succ, Nat.mul_assoc]
  omega
theorem add_back {w0 w lv : List Nat} {i add : Nat} (hi : i < w.length) (h : val w + B ^ i * add = val w0 + val (lv.take i)) :
    val (w.set i ((w.getD i 0 + lv.getD i 0 + add) % B)) + B ^ (i + 1) * ((w.getD i 0 + lv.getD i 0 + add) / B) = val w0 + val (lv.take (i + 1)) := by
  have h1 := val_set w i ((w.getD i 0 + lv.getD i 0 + add) % B) _ (getD_some hi)
  have h4 : B ^ i * ((w.getD i 0 + lv.getD i 0 + add) % B) + B ^ i * (B * ((w.getD i 0 + lv.getD i 0 + add) / B)) = B ^ i * w.getD i 0 + B ^ i * lv.getD i 0 + B ^ i * add := by
    rw [← Nat.mul_add, Nat.mod_add_div, Nat.mul_add, Nat.mul_add]
  rw [val_take_getD, Nat.pow_succ, Nat.mul_assoc]
  omega
theorem add_last {w w0 lv : List Nat} {n add R T : Nat} (hi : w.length = n + 1) (h : val w + B ^ n * add = val w0 + val (lv.take n)) (hn : n = lv.length) (hR : val w0 + val lv = R + T) (hT : T = B ^ (n + 1)) (hw : ∀ x ∈ w, x < B) (ha : add ≤ 1) :
    val (w.set n ((w.getD n 0 + add) % B)) = R := by
  have h1 := val_set w n ((w.getD n 0 + add) % B) _ (getD_some (by omega))
  have h4 : B ^ n * ((w.getD n 0 + add) % B) + B ^ n * (B * ((w.getD n 0 + add) / B)) = B ^ n * w.getD n 0 + B ^ n * add := by
    rw [← Nat.mul_add, Nat.mod_add_div, Nat.mul_add]
  rw [List.take_of_length_le (by omega), hR] at h
  have h5 := val_lt (lt_set (k := n) hw (Nat.mod_lt (w.getD n 0 + add) B_pos))
  rw [List.length_set, hi, ← hT] at h5
  have h6 : B ^ n * (B * ((w.getD n 0 + add) / B)) = T * ((w.getD n 0 + add) / B) := by rw [← Nat.mul_assoc, ← Nat.pow_succ, hT]
  have h7 : (w.getD n 0 + add) / B ≤ 1 := by
    have : w.getD n 0 < B := lt_getD hw
    simp only [B] at *
    omega
  generalize (w.getD n 0 + add) / B = z at h4 h6 h7
  have : z = 0 ∨ z = 1 := by omega
  rcases this with rfl | rfl <;> omega
theorem reduce_ok {σ : St} {p nu cu n c at' q : Nat} {b : Option Addr} {pre win post lv : List Nat} (h : Own σ p nu cu none (pre ++ win ++ post)) (h2 : Dg cxH σ b n c lv) (hne : ∀ a, b = some a → a.block ≠ p) (hnu : nu ≤ 1000000)
    (hpre : at' = pre.length) (hwin : win.length = n + 1) (hq : q < B) (hv : 0 < val lv) (hq1 : val win / val lv ≤ q) (hq2 : q ≤ val win / val lv + 1) :
    C cxH 239 [.slice (some ⟨p, 0, none⟩) nu cu, .slice b n c, .int .i64 (at' : Int), .int .u64 (q : Int)] σ fun v σ' => v = .int .u32 ((val win / val lv : Nat) : Int) ∧ (∃ win', Own σ' p nu cu none (pre ++ win' ++ post) ∧ win'.length = n + 1 ∧ val win' = val win % val lv) ∧ Sym.Mod p σ σ' := by
  have hl2 := h2.len
  have hlen := h.len
  subst hpre
  have hlen2 : pre.length + (n + 1) + post.length = nu := by
    rw [← hlen, List.length_append, List.length_append, hwin]
  refine C_in (N := 112) (rs := [.tmp 8]) fn_239 (by rfl) (by rfl) (by rfl) (by rfl) (by rfl) (by rfl) ?_
  simp (disch := first | exact sideD | fail) only [go_sem]
  refine Wloop_inv (fun m g σ' => ∃ (i carry bor : Nat) (w : List Nat), m = n - i ∧ i ≤ n ∧ carry < B ∧ bor ≤ 1 ∧ g 0 = .slice (some ⟨p, 0, none⟩) nu cu ∧ g 1 = .slice b n c ∧ g 2 = .int .i64 (pre.length : Int) ∧ g 3 = .int .u64 (q : Int) ∧ g 9 = .int .u64 (carry : Int) ∧ g 10 = .int .u32 (bor : Int) ∧
      g 16 = .slice b n c ∧ g 17 = .int .i64 (n : Int) ∧ g 18 = .int .i64 (i : Int) ∧ Own σ' p nu cu none (pre ++ w ++ post) ∧ w.length = n + 1 ∧ Sym.Mod p σ.fresh σ' ∧ val w + q * val (lv.take i) = val win + B ^ i * (carry + bor)) n (by rfl)
    ⟨0, 0, 0, win, rfl, Nat.zero_le _, B_pos, by omega, by simp (disch := first | exact sideD | fail) only [go_sem], by simp (disch := first | exact sideD | fail) only [go_sem], by simp (disch := first | exact sideD | fail) only [go_sem], by simp (disch := first | exact sideD | fail) only [go_sem], by simp (disch := first | exact sideD | fail) only [go_sem]; rfl, by simp (disch := first | exact sideD | fail) only [go_sem]; rfl, by simp (disch := first | exact sideD | fail) only [go_sem], by simp (disch := first | exact sideD | fail) only [go_sem], by simp (disch := first | exact sideD | fail) only [go_sem]; rfl, (show Own σ.fresh p nu cu none (pre ++ win ++ post) from h), hwin, (Mod.refl : Sym.Mod p σ.fresh σ.fresh), by simp [val]⟩ ?_
  rintro m g σ' ⟨i, carry, bor, w, rfl, hi, hcB, hbor, g0, g1, g2, g3, g9, g10, g16, g17, g18, hO, hw, hM, hval⟩
  have d2 := dg_mod (show Dg cxH σ.fresh b n c lv from h2) hne hM
  have hwB := win_ltw hO.dig
  by_cases hin : i = n
  · subst hin
    have e : ((i : Int) < (i : Int)) = False := eq_false (by omega)
    have hx := win_get (pre := pre) (win := w) (post := post) (i := i) (by omega)
    have hwi : w.getD i 0 < B := lt_getD hwB
    have w1 : IntKind.u32.wrap (carry : Int) = (carry : Int) := wu32_nat hcB
    have wi : pre.length + i < 9223372036854775808 := by omega
    have last := red_last (by omega) hval (by omega) hcB hwB hbor
    have hy : sb (w.getD i 0) carry bor < B := Nat.mod_lt _ B_pos
    have hO1 : Own (σ'.set p (ow none ((pre ++ w ++ post).set (pre.length + i) (sb (w.getD i 0) carry bor)))) p nu cu none _ := hO.set hy
    have hM1 : Sym.Mod p σ.fresh (σ'.set p (ow none ((pre ++ w ++ post).set (pre.length + i) (sb (w.getD i 0) carry bor)))) := hM.set _
    have hset := win_set (pre := pre) (win := w) (post := post) (i := i) (y := sb (w.getD i 0) carry bor) (by omega)
    have hlo := hO.len
    rw [hset] at hO1 hM1
    simp (disch := first | exact sideD | fail) only [go_sem, g0, g1, g2, g3, g9, g10, g16, g17, g18, e, wi_add, ia_own, hO.at, lo_ow hx, w1]
    apply usep
    case h => exact sub32_ok hwi hcB hbor
    rintro _ rfl
    simp (disch := first | exact sideD | fail) only [go_sem, g0, g1, g2, g3, g9, g10, g16, g17, g18, wi_add, ia_own, hO.at, st_ow, hset]
    have hlow1 : (σ'.set p (ow none (pre ++ w.set i (sb (w.getD i 0) carry bor) ++ post))).low ≤ p := Nat.min_le_right _ _
    have hW1 : ∀ x ∈ w.set i (sb (w.getD i 0) carry bor), x < B := lt_set hwB hy
    have hwl1 : (w.set i (sb (w.getD i 0) carry bor)).length = i + 1 := by rw [List.length_set, hw]
    obtain ⟨w1', hw1'⟩ : ∃ w1', w1' = w.set i (sb (w.getD i 0) carry bor) := ⟨_, rfl⟩
    rw [← hw1'] at hO1 hM1 hlow1 hW1 hwl1 last ⊢
    by_cases hsc : sc (w.getD i 0) carry bor = 0
    · have e2 : (((sc (w.getD i 0) carry bor : Nat) : Int) = 0) = True := eq_true (by omega)
      rw [hsc, Nat.mul_zero, Nat.add_zero] at last
      obtain ⟨k1, k2⟩ := kn_none hv hq1 last
      have w2 : IntKind.u32.wrap (q : Int) = (q : Int) := wu32_nat hq
      simp (disch := first | exact sideD | fail) only [go_sem, e2, g3, w2]
      obtain ⟨j1, j2⟩ := own_back (v := .int .u32 (q : Int)) hO1 hM1 hlow1 h.lt
      exact ⟨by rw [k1], ⟨_, j1, hwl1, k2⟩, j2⟩
    · have hsc1 : sc (w.getD i 0) carry bor = 1 := by
        have := sc_le (x := w.getD i 0) (y := carry) (z := bor)
        omega
      have e2 : (((sc (w.getD i 0) carry bor : Nat) : Int) = 0) = False := eq_false (by omega)
      rw [hsc1, Nat.mul_one] at last
      have hT := val_lt hW1
      rw [hwl1] at hT
      obtain ⟨k1, k2⟩ := kn_back hv hq2 last hT
      simp (disch := first | exact sideD | fail) only [go_sem, e2, g1, g0, g2, g3]
      refine Wloop_inv (fun m g σ' => ∃ (i' add : Nat) (w : List Nat), m = i - i' ∧ i' ≤ i ∧ add ≤ 1 ∧ g 0 = .slice (some ⟨p, 0, none⟩) nu cu ∧ g 1 = .slice b i c ∧ g 2 = .int .i64 (pre.length : Int) ∧ g 3 = .int .u64 (q : Int) ∧ g 13 = .int .u32 (add : Int) ∧
          g 74 = .slice b i c ∧ g 75 = .int .i64 (i : Int) ∧ g 76 = .int .i64 (i' : Int) ∧ Own σ' p nu cu none (pre ++ w ++ post) ∧ w.length = i + 1 ∧ Sym.Mod p σ.fresh σ' ∧ σ'.low ≤ p ∧ val w + B ^ i' * add = val w1' + val (lv.take i')) i (by rfl)
        ⟨0, 0, w1', rfl, Nat.zero_le _, by omega, by simp (disch := first | exact sideD | fail) only [go_sem, g0], by simp (disch := first | exact sideD | fail) only [go_sem, g1], by simp (disch := first | exact sideD | fail) only [go_sem, g2], by simp (disch := first | exact sideD | fail) only [go_sem, g3], by simp (disch := first | exact sideD | fail) only [go_sem]; rfl, by simp (disch := first | exact sideD | fail) only [go_sem], by simp (disch := first | exact sideD | fail) only [go_sem], by simp (disch := first | exact sideD | fail) only [go_sem]; rfl, hO1, hwl1, hM1, hlow1, by simp [val]⟩ ?_
      clear hO1 hM1 hlow1 g0 g1 g2 g3 g9 g10 g16 g17 g18 hset hO hM hval d2 hwB hx hwi e2 hsc hsc1 last hw1' hw hlo
      rintro m2 g σ2 ⟨i', add, w2, rfl, hi', hadd, g0, g1, g2, g3, g13, g74, g75, g76, hO, hw, hM, hlow, hval⟩
      have d2 := dg_mod (show Dg cxH σ.fresh b i c lv from h2) hne hM
      have hwB := win_ltw hO.dig
      have hlo := hO.len
      by_cases hin : i' = i
      · subst hin
        have e : ((i' : Int) < (i' : Int)) = False := eq_false (by omega)
        have hx := win_get (pre := pre) (win := w2) (post := post) (i := i') (by omega)
        have hwi : w2.getD i' 0 < B := lt_getD hwB
        have hy : (w2.getD i' 0 + add) % B < B := Nat.mod_lt _ B_pos
        have hO1 : Own (σ2.set p (ow none ((pre ++ w2 ++ post).set (pre.length + i') ((w2.getD i' 0 + add) % B)))) p nu cu none _ := hO.set hy
        have hM1 : Sym.Mod p σ.fresh (σ2.set p (ow none ((pre ++ w2 ++ post).set (pre.length + i') ((w2.getD i' 0 + add) % B)))) := hM.set _
        have hset := win_set (pre := pre) (win := w2) (post := post) (i := i') (y := (w2.getD i' 0 + add) % B) (by omega)
        rw [hset] at hO1 hM1
        have hlow1 : (σ2.set p (ow none (pre ++ w2.set i' ((w2.getD i' 0 + add) % B) ++ post))).low ≤ p := Nat.min_le_right _ _
        have w3 : IntKind.u32.wrap (((w2.getD i' 0 : Nat) : Int) + (add : Int)) = (((w2.getD i' 0 + add) % B : Nat) : Int) := by
          rw [← Int.natCast_add, wr32]
        have w4 : IntKind.u64.wrap ((q : Int) - 1) = ((q - 1 : Nat) : Int) := wu_sub (y := 1) (by rw [k1]; exact Nat.le_add_left _ _) (by simp only [B] at hq; omega)
        have w5 : IntKind.u32.wrap ((q - 1 : Nat) : Int) = ((q - 1 : Nat) : Int) := wu32_nat (by simp only [B] at hq; omega)
        have res := add_last (by omega) hval (by omega) k2 rfl hwB hadd
        simp (disch := first | exact sideD | fail) only [go_sem, g0, g1, g2, g3, g13, g74, g75, g76, e, wi_add, ia_own, hO.at, lo_ow hx, w3, st_ow, hset, w4, w5]
        obtain ⟨j1, j2⟩ := own_back (v := .int .u32 ((q - 1 : Nat) : Int)) hO1 hM1 hlow1 h.lt
        exact ⟨by rw [show q - 1 = val win / val lv by rw [k1, Nat.add_sub_cancel]], ⟨_, j1, by rw [List.length_set, hw], res⟩, j2⟩
      · have e : ((i' : Int) < (i : Int)) = True := eq_true (by omega)
        have hx := win_get (pre := pre) (win := w2) (post := post) (i := i') (by omega)
        have hwi : w2.getD i' 0 < B := lt_getD hwB
        have hvB : lv.getD i' 0 < B := lt_getD h2.lt
        have haB : add < B := by simp only [B]; omega
        have hy : (w2.getD i' 0 + lv.getD i' 0 + add) % B < B := Nat.mod_lt _ B_pos
        have hO1 : Own (σ2.set p (ow none ((pre ++ w2 ++ post).set (pre.length + i') ((w2.getD i' 0 + lv.getD i' 0 + add) % B)))) p nu cu none _ := hO.set hy
        have hM1 : Sym.Mod p σ.fresh (σ2.set p (ow none ((pre ++ w2 ++ post).set (pre.length + i') ((w2.getD i' 0 + lv.getD i' 0 + add) % B)))) := hM.set _
        have hset := win_set (pre := pre) (win := w2) (post := post) (i := i') (y := (w2.getD i' 0 + lv.getD i' 0 + add) % B) (by omega)
        rw [hset] at hO1 hM1
        have st := add_back (lv := lv) (by omega) hval
        simp (disch := first | exact sideD | fail) only [go_sem, g0, g1, g2, g3, g13, g74, g75, g76, e, ia_33 d2, ld_136' d2, wi_add, ia_own, hO.at, lo_ow hx]
        apply usep
        case h => exact add32_ok hwi hvB haB
        rintro _ rfl
        simp (disch := first | exact sideD | fail) only [go_sem, g0, g1, g2, g3, g13, g74, g75, g76, wi_add, ia_own, hO.at, st_ow, hset, wi_succ]
        refine ⟨i - (i' + 1), by omega, i' + 1, _, _, rfl, by omega, ?_, trivial, trivial, trivial, trivial, rfl, trivial, trivial, rfl, hO1, by rw [List.length_set, hw], hM1, Nat.min_le_right _ _, st⟩
        simp only [B] at *
        omega
  · have e : ((i : Int) < (n : Int)) = True := eq_true (by omega)
    have hx := win_get (pre := pre) (win := w) (post := post) (i := i) (by omega)
    have hwi : w.getD i 0 < B := lt_getD hwB
    have hvB : lv.getD i 0 < B := lt_getD h2.lt
    have hxy := mul_small hq hvB
    have ht : carry + q * lv.getD i 0 < 18446744073709551616 := by simp only [B] at hcB; omega
    have htB : (carry + q * lv.getD i 0) % B < B := Nat.mod_lt _ B_pos
    have hy : sb (w.getD i 0) ((carry + q * lv.getD i 0) % B) bor < B := Nat.mod_lt _ B_pos
    have hO1 : Own (σ'.set p (ow none ((pre ++ w ++ post).set (pre.length + i) (sb (w.getD i 0) ((carry + q * lv.getD i 0) % B) bor)))) p nu cu none _ := hO.set hy
    have hM1 : Sym.Mod p σ.fresh (σ'.set p (ow none ((pre ++ w ++ post).set (pre.length + i) (sb (w.getD i 0) ((carry + q * lv.getD i 0) % B) bor)))) := hM.set _
    have hset := win_set (pre := pre) (win := w) (post := post) (i := i) (y := sb (w.getD i 0) ((carry + q * lv.getD i 0) % B) bor) (by omega)
    have hlo := hO.len
    rw [hset] at hO1 hM1
    have st := red_step (by omega) hval rfl rfl hwB hbor
    have hxy2 : q * lv.getD i 0 < 18446744073709551616 := by omega
    have w2 : IntKind.u64.wrap ((lv.getD i 0 : Nat) : Int) = ((lv.getD i 0 : Nat) : Int) := wu_nat (by simp only [B] at hvB; omega)
    simp (disch := first | exact sideD | fail) only [go_sem, g0, g1, g2, g3, g9, g10, g16, g17, g18, e, ia_33 d2, ld_136' d2, w2, wu_mul, wu_add, wi_add, ia_own, hO.at, lo_ow hx, wr32]
    apply usep
    case h => exact sub32_ok hwi htB hbor
    rintro _ rfl
    simp (disch := first | exact sideD | fail) only [go_sem, g0, g1, g2, g3, g9, g10, g16, g17, g18, w2, wu_mul, wu_add, wi_add, ia_own, hO.at, st_ow, hset, shr32, wi_succ]
    refine ⟨n - (i + 1), by omega, i + 1, _, _, _, rfl, by omega, ?_, sc_le, trivial, trivial, trivial, trivial, rfl, rfl, trivial, trivial, rfl, hO1, by rw [List.length_set, hw], hM1, st⟩
    simp only [B] at *
    omega
end
section
theorem W2_sl33 {all : Array Oper} {g : Fm} {σ : St} {d : Tmp} {ty : TypeId} {pos : String} {after : Array Edge} {r : List Oper} {K : Fm → St → Prop} {x hi : Operand} {b : Option Addr} {n c m : Nat} {l : List Nat} {k : IntKind}
    (hl : σ.low ≤ σ.next) (hx : ev g x = .slice b n c) (hh : ev g hi = .int k (m : Int)) (h : Dg cxH σ b n c l) (hm : m ≤ n) (hK : W2 cxH all r (setF g d (.slice b m c)) σ K) :
    W2 cxH all (⟨some d, .slice 33 x none (some hi) none, ty, pos, after, none⟩ :: r) g σ K := by
  have e : ∀ σ' : St, Dg cxH σ' b n c l → opSlice cxH σ' 33 (.slice b n c) none (some (.int k (m : Int))) none = some (.val (.slice b m c) σ') := fun σ' h' => by
    have := sl_33 (k := k) (K := fun v s => v = .slice b m c ∧ s = σ') h' hm
    have h2 : Wsl cxH σ' 33 (.slice b n c) none (some (.int k (m : Int))) none fun v s => v = .slice b m c ∧ s = σ' := by rw [this]; exact ⟨rfl, rfl⟩
    obtain ⟨v, s, h3, h4, h5⟩ := h2
    rw [h3, h4, h5]
  rw [W2_of rfl (some (.slice b m c, σ, σ.lw σ.next)) (by
    show opSlice cxH (σ.lw σ.next) 33 (ev g x) none (some (ev g hi)) none = _
    rw [hx, hh]
    exact e _ h) (by
    show opSlice cxH σ 33 (ev g x) none (some (ev g hi)) none = _
    rw [hx, hh]
    exact e _ h) (fun x hx => by
    injection hx with hx
    subst hx
    exact ⟨by show (σ.lw σ.next).lw (min σ.low σ.next) = σ; rw [lw_lw]; exact lw_self (by omega), rfl⟩)]
  have hs : symOpE cxH (ev g) σ (.slice 33 x none (some hi) none) ty = some (.val (.slice b m c) σ) := by
    show opSlice cxH σ 33 (ev g x) none (some (ev g hi)) none = _
    rw [hx, hh]
    exact e _ h
  rw [Wop_val hs]
  exact hK
theorem bs1_33 {σ : St} {x : Int} {K : Value → St → Prop} : Wbs cxH σ 33 1 [(0, .int .u32 x)] K = K (.slice (some ⟨σ.next, 0, none⟩) 1 1) (σ.add (.row [.int .u32 x] 136)) := by
  have e : opBuildSlice cxH σ 33 1 [(0, .int .u32 x)] = some (.val (.slice (some ⟨σ.next, 0, none⟩) 1 1) (σ.add (.row [.int .u32 x] 136))) := by
    unfold opBuildSlice
    rw [ty_33]
    simp only [Option.bind_eq_bind, Option.bind_some]
    show (ty cxH 136).bind _ = _
    rw [ty_136]
    rfl
  unfold Wbs
  rw [e]
  exact Wr_some
theorem own_mod {σ σ' : St} {p p' n c : Nat} {kd : Option Nat} {l : List Nat} (h : Own σ p n c kd l) (hne : p ≠ p') (m : Sym.Mod p' σ σ') : Own σ' p n c kd l :=
  ⟨(m.look h.lt hne).trans h.look, Nat.lt_of_lt_of_le h.lt m.next, h.len, h.dig, by
    rcases h.cap with k | ⟨k1, k2, lo, k3, k4⟩
    · exact .inl k
    · exact .inr ⟨k1, Nat.lt_of_lt_of_le k2 m.nextC, lo, (m.caps _ k2).trans k3, k4⟩⟩
theorem ap_33o {σ : St} {b : Option Addr} {n c : Nat} {l : List Nat} {K : Value → St → Prop} (h : Dg cxH σ b n c l) (hn : n ≤ 1000000) (hn0 : 0 < n)
    (hK : ∀ p c' k σ', Own σ' p n c' (some k) l → σ.next ≤ p → Ext' σ σ' → K (.slice (some ⟨p, 0, none⟩) n c') σ') : Wap cxH σ 33 33 (.slice none 0 0) (.slice b n c) K := by
  have hl := h.len
  have hnews : newsOf cxH σ 1 (.int .u32 0) (TI.of Tryz.t33 Tryz.t33).desc (.slice b n c) = some (n, l.map dig) := by
    show newsOf cxH σ 1 (.int .u32 0) (.slice 136) (.slice b n c) = _
    cases b with
    | none => have := (h.sl.nil rfl).1; omega
    | some a =>
      have hb0 : Nat.beq n 0 = false := Bool.eq_false_iff.2 fun e => by have := Nat.eq_of_beq_eq_true e; omega
      have := load_cells (cx := cxH) (i := 0) (m := n * 1) h.sl (fun e => by cases e) hn0 (by omega)
      have e : elAt (some a) 0 = a := by
        show a.add 0 = a
        simp [Addr.add]
      rw [e] at this
      show cond (Nat.beq n 0) _ ((Sym.loadCells cxH σ a (n * 1)).bind _) = _
      rw [hb0, cond_false, this]
      have hlen := h.sl.len
      show some (n, ((l.map dig).drop 0).take (n * 1)) = _
      rw [List.drop_zero, List.take_of_length_le (by omega)]
  have hle : Nat.ble (0 + n) 1000000 = true := Nat.ble_eq_true_of_le (by omega)
  have key : opAppend cxH σ 33 33 (.slice none 0 0) (.slice b n c) = appNone σ 136 1 0 0 (.slice none 0 0) n (l.map dig) := by
    unfold opAppend
    rw [ty_33]
    simp only [Option.bind_eq_bind, Option.bind_some]
    show ((ty cxH 136).bind fun ei => (some (TI.of Tryz.t33 Tryz.t33)).bind fun xi => ei.zero.bind fun z => appElem cxH σ 136 ei xi z none 0 0 (.slice none 0 0) (.slice b n c)) = _
    rw [ty_136]
    show appElem cxH σ 136 (TI.of Tryz.t136 Tryz.t136) (TI.of Tryz.t33 Tryz.t33) (.int .u32 0) none 0 0 (.slice none 0 0) (.slice b n c) = _
    unfold appElem
    show cond true ((newsOf cxH σ 1 (.int .u32 0) (TI.of Tryz.t33 Tryz.t33).desc (.slice b n c)).bind _) none = _
    rw [hnews, cond_true]
    show cond ((l.map dig).all (·.oneCell') && Nat.ble (0 + n) 1000000) _ none = _
    rw [digs_one, hle]
    rfl
  unfold Wap
  rw [key]
  have hb : Nat.beq n 0 = false := by
    cases hb : Nat.beq n 0
    · rfl
    · have := Nat.eq_of_beq_eq_true hb; omega
  have hg : appNone σ 136 1 0 0 (.slice none 0 0) n (l.map dig) = grown σ 136 1 n (l.map dig) := by
    show cond true (cond (Nat.beq n 0) _ (grown σ 136 1 n (l.map dig))) none = _
    rw [hb, cond_true, cond_false]
  refine ⟨_, _, hg, ?_⟩
  have hE : Ext' σ { next := σ.next + 1, nextC := σ.nextC + 1, mem := σ.mem.set σ.next (some (.own (.opn (l.map dig) 136 1 σ.nextC))), caps := σ.caps.set σ.nextC (some n), low := σ.low } :=
    ⟨Nat.le_succ _, Nat.le_succ _, Nat.min_le_left _ _, fun i hi => by
      show (σ.mem.set σ.next _).get i = _
      rw [Tr.get_set, if_neg (by omega)], fun k hk => by
      show (σ.caps.set σ.nextC _).get k = _
      rw [Tr.get_set, if_neg (by omega)], fun h => by show σ.low ≤ σ.next + 1; omega⟩
  refine hK σ.next (capBase + σ.nextC) σ.nextC _ ⟨?_, Nat.lt_succ_self _, hl.symm, h.lt, ?_⟩ (Nat.le_refl _) hE
  · show ((σ.mem.set σ.next _).get σ.next).bind _ = _
    rw [Tr.get_set, if_pos rfl]
    rfl
  · refine .inr ⟨by omega, ?_, n, ?_, Nat.le_refl n⟩
    · show capBase + σ.nextC - capBase < σ.nextC + 1
      omega
    · show (σ.caps.set σ.nextC (some n)).get (capBase + σ.nextC - capBase) = _
      rw [Tr.get_set, if_pos (by omega)]
theorem own_back0 {σ0 σ : St} {p n c m m' : Nat} {kd : Option Nat} {l : List Nat} (h : Own σ p n c kd l) : Own (back σ0 (.slice (some ⟨p, 0, none⟩) m m') σ) p n c kd l := by
  have : plain (.slice (some ⟨p, 0, none⟩) m m') = false := rfl
  rw [back_look (cx := cxH) this]
  exact h
theorem cloneo_ok {σ : St} {b : Option Addr} {n c : Nat} {l : List Nat} (h : Dg cxH σ b n c l) (hn : n ≤ 1000000) (hn0 : 0 < n) :
    C cxH 191 [.slice b n c] σ fun v σ' => (∃ p c' k, v = .slice (some ⟨p, 0, none⟩) n c' ∧ Own σ' p n c' (some k) l ∧ σ.next ≤ p) ∧ Ext' σ σ' := by
  have h' := h.ext (Ext'.to_fresh σ)
  refine C_in (N := 5) (rs := [.tmp 2]) fn_191 (by rfl) (by rfl) (by rfl) (by rfl) (by rfl) (by rfl) ?_
  simp (disch := first | exact sideD | fail) only [go_sem]
  refine ap_33o h' hn hn0 fun p c' k σ' hO hp he => ?_
  simp (disch := first | exact sideD | fail) only [go_sem]
  exact ⟨⟨p, c', k, rfl, own_back0 hO, hp⟩, back_ext he⟩
theorem val_drop_div (l : List Nat) (m : Nat) (h : ∀ x ∈ l, x < B) (hm : m ≤ l.length) : val (l.drop m) = val l / B ^ m := by
  rw [val_take_drop l m hm, Nat.add_mul_div_left _ _ (pow_pos m)]
  have := val_lt (lt_take (k := m) h)
  rw [List.length_take, Nat.min_eq_left hm] at this
  rw [Nat.div_eq_of_lt this, Nat.zero_add]
theorem digits_ge {y n : Nat} (hn : n = (digits y).length) (h0 : 0 < n) : B ^ (n - 1) ≤ y := by
  rcases Nat.lt_or_ge y (B ^ (n - 1)) with h | h
  · have := digits_length h
    omega
  · exact h
theorem digits_lt_pow {y n : Nat} (hn : n = (digits y).length) : y < B ^ n := by
  have := val_lt (digits_lt y)
  rw [val_digits, ← hn] at this
  exact this
theorem val_top {l : List Nat} {n : Nat} (h : ∀ x ∈ l, x < B) (hn : n + 2 = l.length) :
    (l.getD (n + 1) 0 * B + l.getD n 0) * B ^ n ≤ val l ∧ val l < (l.getD (n + 1) 0 * B + l.getD n 0 + 1) * B ^ n := by
  have h1 := val_at l n _ (getD_some (by omega))
  have h2 : val (l.drop (n + 1)) = l.getD (n + 1) 0 := by
    rw [val_drop_cons (by omega), List.drop_of_length_le (by omega)]
    simp [val]
  have h3 := val_lt (lt_take (k := n) h)
  rw [List.length_take, Nat.min_eq_left (by omega)] at h3
  rw [h2] at h1
  have e : B ^ n * (l.getD n 0 + B * l.getD (n + 1) 0) = (l.getD (n + 1) 0 * B + l.getD n 0) * B ^ n := by
    rw [Nat.mul_comm, Nat.mul_comm B, Nat.add_comm (l.getD n 0)]
  rw [e] at h1
  rw [Nat.add_mul _ 1, Nat.one_mul]
  omega
theorem val_top3 {l : List Nat} {n : Nat} (h : ∀ x ∈ l, x < B) (hn : n + 3 = l.length) :
    ((l.getD (n + 2) 0 * B + l.getD (n + 1) 0) * B + l.getD n 0) * B ^ n ≤ val l ∧ val l < ((l.getD (n + 2) 0 * B + l.getD (n + 1) 0) * B + l.getD n 0 + 1) * B ^ n := by
  have h1 := val_at l n _ (getD_some (by omega))
  have h2 : val (l.drop (n + 1)) = l.getD (n + 1) 0 + B * l.getD (n + 2) 0 := by
    rw [val_drop_cons (by omega), val_drop_cons (by omega), List.drop_of_length_le (by omega)]
    simp [val]
  have h3 := val_lt (lt_take (k := n) h)
  rw [List.length_take, Nat.min_eq_left (by omega)] at h3
  rw [h2] at h1
  have e : B ^ n * (l.getD n 0 + B * (l.getD (n + 1) 0 + B * l.getD (n + 2) 0)) = ((l.getD (n + 2) 0 * B + l.getD (n + 1) 0) * B + l.getD n 0) * B ^ n := by
    rw [Nat.mul_comm, Nat.mul_comm B (_ + _), Nat.add_comm (l.getD n 0), Nat.mul_comm B (l.getD (n + 2) 0), Nat.add_comm (l.getD (n + 1) 0)]
  rw [e] at h1
  rw [Nat.add_mul _ 1, Nat.one_mul]
  omega
end
section
theorem plain_t2 {a b : Option Addr} {m k n c : Nat} (h : plain (.tuple #[.slice a m k, .slice b n c]) = true) : a = none ∧ b = none := by
  have : ((a.isNone && decide (k < capBase)) && ((b.isNone && decide (c < capBase)) && true)) = true := h
  simp only [Bool.and_eq_true, Option.isNone_iff_eq_none] at this
  exact ⟨this.1.1, this.2.1.1⟩
theorem dg_t1 {σ0 σ : St} {a b : Option Addr} {m k n c : Nat} {l : List Nat} (h : Dg cxH σ a m k l) : Dg cxH (back σ0 (.tuple #[.slice a m k, .slice b n c]) σ) a m k l := dg_back h fun hp => (plain_t2 hp).1
theorem dg_t2 {σ0 σ : St} {a b : Option Addr} {m k n c : Nat} {l : List Nat} (h : Dg cxH σ b n c l) : Dg cxH (back σ0 (.tuple #[.slice a m k, .slice b n c]) σ) b n c l := dg_back h fun hp => (plain_t2 hp).2
theorem norm_div {y n t k : Nat} (hn : n + 1 = (digits y).length) (ht : t = (digits y).getD n 0) (hb : Bl t k) (hk : k ≤ 32) : t ≠ 0 ∧ 1 ≤ k ∧ y * 2 ^ (32 - k) < B ^ (n + 1) ∧ B ^ (n + 1) ≤ 2 * (y * 2 ^ (32 - k)) := by
  have h1 := val_at (digits y) n _ (getD_some (by omega))
  rw [val_digits, List.drop_of_length_le (by omega), val_nil, Nat.mul_zero, Nat.add_zero, ← ht] at h1
  have h2 := val_lt (lt_take (k := n) (digits_lt y))
  rw [List.length_take, Nat.min_eq_left (by omega)] at h2
  have h3 := digits_ge hn (Nat.succ_pos _)
  rw [Nat.add_sub_cancel] at h3
  have t0 : t ≠ 0 := fun e => by
    rw [e, Nat.mul_zero] at h1
    omega
  have k1 : 1 ≤ k := by
    rcases Nat.eq_zero_or_pos k with e | e
    · have := hb.1
      rw [e] at this
      omega
    · exact e
  have hB : 2 ^ k * 2 ^ (32 - k) = B := by rw [← Nat.pow_add, show k + (32 - k) = 32 by omega]
  have hp : 0 < 2 ^ (32 - k) := Nat.pow_pos (by decide)
  refine ⟨t0, k1, ?_, ?_⟩
  · have h4 : y < 2 ^ k * B ^ n := by
      have h5 : B ^ n * (t + 1) ≤ B ^ n * 2 ^ k := Nat.mul_le_mul_left _ hb.1
      rw [Nat.mul_add, Nat.mul_one] at h5
      rw [Nat.mul_comm (2 ^ k)]
      omega
    calc y * 2 ^ (32 - k) < 2 ^ k * B ^ n * 2 ^ (32 - k) := Nat.mul_lt_mul_of_pos_right h4 hp
      _ = 2 ^ k * 2 ^ (32 - k) * B ^ n := Nat.mul_right_comm _ _ _
      _ = B ^ (n + 1) := by rw [hB, Nat.pow_succ']
  · have h4 : 2 ^ k * B ^ n ≤ 2 * y := by
      have h5 : B ^ n * 2 ^ k ≤ B ^ n * (2 * t) := Nat.mul_le_mul_left _ (hb.2 t0)
      rw [Nat.mul_left_comm] at h5
      rw [Nat.mul_comm (2 ^ k)]
      omega
    calc B ^ (n + 1) = 2 ^ k * 2 ^ (32 - k) * B ^ n := by rw [hB, Nat.pow_succ']
      _ = 2 ^ k * B ^ n * 2 ^ (32 - k) := Nat.mul_right_comm _ _ _
      _ ≤ 2 * y * 2 ^ (32 - k) := Nat.mul_le_mul_right _ h4
      _ = 2 * (y * 2 ^ (32 - k)) := Nat.mul_assoc _ _ _
theorem kn_of {lv win : List Nat} {N : Nat} (hlv : ∀ x ∈ lv, x < B) (hw : ∀ x ∈ win, x < B) (hn : N + 2 = lv.length) (hwn : N + 3 = win.length) (hV : B ^ (N + 2) ≤ 2 * val lv) (hU : val win < B * val lv) :
    Kn (val win) (val lv) (B ^ N) (lv.getD (N + 1) 0) (lv.getD N 0) (win.getD (N + 2) 0 * B + win.getD (N + 1) 0) (win.getD N 0) := by
  obtain ⟨a1, a2⟩ := val_top hlv hn
  obtain ⟨b1, b2⟩ := val_top3 hw hwn
  refine ⟨pow_pos N, a1, a2, b1, b2, ?_, lt_getD hlv, lt_getD hw, hU⟩
  have h2 : lv.getD N 0 + 1 ≤ B := lt_getD hlv
  have h3 : (lv.getD (N + 1) 0 * B + lv.getD N 0 + 1) * B ^ N ≤ (lv.getD (N + 1) 0 + 1) * B * B ^ N := by
    refine Nat.mul_le_mul_right _ ?_
    rw [Nat.add_mul, Nat.one_mul]
    omega
  have h4 : B ^ (N + 2) = B * (B * B ^ N) := by rw [Nat.pow_succ', Nat.pow_succ']
  have h5 : B * (B * B ^ N) < 2 * (lv.getD (N + 1) 0 + 1) * (B * B ^ N) := by
    have h7 : 2 * val lv < 2 * ((lv.getD (N + 1) 0 + 1) * B * B ^ N) := by omega
    rw [Nat.mul_assoc (_ + 1), ← Nat.mul_assoc 2] at h7
    rw [← h4]
    exact Nat.lt_of_le_of_lt hV h7
  have h6 := Nat.lt_of_mul_lt_mul_right h5
  simp only [B] at *
  omega
theorem long_step {lu win win' lq : List Nat} {k n X V D : Nat} (hk : k < lq.length) (hlu : lu = lu.take k ++ win ++ lu.drop (k + (n + 1))) (hwl : win.length = n + 1) (hwl' : win'.length = n + 1) (hkl : k ≤ lu.length)
    (hU : val win = val (lu.drop k)) (hp : val (lu.drop (k + (n + 1))) = 0) (hD : D = val win / V) (hw' : val win' = val win % V) (hX : X = val lu + V * (B ^ (k + 1) * val (lq.drop (k + 1)))) :
    X = val (lu.take k ++ win' ++ lu.drop (k + (n + 1))) + V * (B ^ k * val ((lq.set k D).drop k)) ∧ val ((lu.take k ++ win' ++ lu.drop (k + (n + 1))).drop k) = val win % V := by
  have ht : (lu.take k).length = k := by rw [List.length_take, Nat.min_eq_left hkl]
  have h1 : val (lu.take k ++ win' ++ lu.drop (k + (n + 1))) = val (lu.take k) + B ^ k * val win' := by
    rw [List.append_assoc, val_append, ht, val_append, hp, Nat.mul_zero, Nat.add_zero]
  have h2 : val lu = val (lu.take k) + B ^ k * val win := by rw [hU]; exact val_take_drop lu k hkl
  constructor
  · rw [h1, hX, h2, drop_set hk, val_cons, hw', Nat.mul_add (B ^ k), Nat.mul_add V, Nat.pow_succ, Nat.mul_assoc (B ^ k)]
    have h3 := Nat.div_add_mod (val win) V
    have h4 : B ^ k * val win = V * (B ^ k * D) + B ^ k * (val win % V) := by
      rw [Nat.mul_left_comm, ← Nat.mul_add, hD, h3]
    omega
  · rw [List.append_assoc, List.drop_append_of_le_length (by omega), List.drop_of_length_le (by omega), List.nil_append, val_append, hp, Nat.mul_zero, Nat.add_zero, hw']
theorem divide_ok {σ : St} {b b' : Option Addr} {n c n' c' x y : Nat} (h : Dg cxH σ b n c (digits x)) (h2 : Dg cxH σ b' n' c' (digits y)) (hn : n ≤ 400000) (hn' : n' ≤ 400000) (hy : y ≠ 0) :
    C cxH 192 [.slice b n c, .slice b' n' c'] σ fun v σ' => (∃ aq mq cq lq ar mr cr lr, v = .tuple #[.slice aq mq cq, .slice ar mr cr] ∧ Dg cxH σ' aq mq cq lq ∧ Dg cxH σ' ar mr cr lr ∧ mq ≤ 500000 ∧ mr ≤ 500000 ∧ val lq = x / y ∧ val lr = x % y) ∧ Ext' σ σ' := by
  have hl := h.len
  have hl2 := h2.len
  have d1 := h.ext (Ext'.to_fresh σ)
  have d2 := h2.ext (Ext'.to_fresh σ)
  have hn0 : 0 < n' := by
    rw [hl2, digits_pos hy]
    exact Nat.succ_pos _
  refine C_in (N := 98) (rs := [.tmp 4, .tmp 5]) fn_192 (by rfl) (by rfl) (by rfl) (by rfl) (by rfl) (by rfl) ?_
  simp (disch := first | exact sideD | fail) only [go_sem]
  apply usep
  case h => exact compare_ok d1 d2 (by omega) (by omega)
  rintro _ rfl
  by_cases hxy : x < y
  · have e : (cmp x y < 0) = True := eq_true (by rw [cmp_lt hxy]; decide)
    simp (disch := first | exact sideD | fail) only [go_sem, e]
    apply use
    case hl => exact sideX
    case h => exact clone_ok' d1 (by omega)
    rintro _ σ1 ⟨b1, c1, rfl, d3⟩ e1 l1
    have n_e1 := e1.next
    try simp only [add_next, set_next, fresh_next, low_next, lw_next] at n_e1
    simp (disch := first | exact sideD | fail) only [go_sem]
    exact ⟨⟨none, 0, 0, [], b1, n, c1, _, rfl, dg_nil _, dg_t2 d3, by omega, by omega, by rw [Nat.div_eq_of_lt hxy]; rfl, by rw [val_digits, Nat.mod_eq_of_lt hxy]⟩, back_ext e1⟩
  · have e : (cmp x y < 0) = False := eq_false (by
      have := cmp_ge.2 (Nat.le_of_not_lt hxy)
      omega)
    have hnn : n' ≤ n := by
      rcases Nat.lt_or_ge n n' with h3 | h3
      · have := digits_shorter (x := x) (y := y) (by omega)
        omega
      · exact h3
    by_cases hn1 : n' = 1
    · subst hn1
      have e2 : (((1 : Nat) : Int) = 1) = True := eq_true rfl
      obtain ⟨k, hk⟩ : ∃ k, digits y = [k] := by
        cases hdy : digits y with
        | nil => rw [hdy] at hl2; cases hl2
        | cons k r =>
          rw [hdy] at hl2
          have : r = [] := List.eq_nil_of_length_eq_zero (by rw [List.length_cons] at hl2; omega)
          exact ⟨k, by rw [this]⟩
      have hky : y = k := by
        have := val_digits y
        rw [hk] at this
        simp [val] at this
        exact this.symm
      have hkB : k < B := digits_lt y k (by rw [hk]; exact List.mem_singleton.2 rfl)
      simp (disch := first | exact sideD | fail) only [go_sem, e, e2]
      apply use
      case hl => exact sideX
      case h => exact cloneo_ok d1 (by omega) (by omega)
      rintro _ σ1 ⟨p, c1, kd, rfl, hO, hp⟩ e1 l1
      have n_e1 := e1.next
      try simp only [add_next, set_next, fresh_next, low_next, lw_next] at n_e1
      have d2' := d2.ext e1
      have hz : Wia cxH 33 (.slice b' 1 c') (.int .i64 0) = fun K => K (.pointer (some (elAt b' 0))) := by
        funext K
        exact ia_33 (k := .i64) (i := 0) d2' (by decide)
      have hld : Wld cxH σ1 136 (.pointer (some (elAt b' 0))) = fun K => K (.int .u32 (k : Int)) := by
        funext K
        exact ld_136 (i := 0) d2' (by rw [hk]; rfl)
      simp (disch := first | exact sideD | fail) only [go_sem, hz, hld]
      refine (shrunk_ok hO (by omega) (by omega) (by omega) hkB).mono ?_
      rintro _ σ2 ⟨rfl, ⟨l', hO2, hv2⟩, hM⟩
      have E2 := hM.ext e1 hp
      simp (disch := first | exact sideD | fail) only [go_sem, bs1_33]
      have hr : val (digits x) % k < B := Nat.lt_trans (Nat.mod_lt _ (by omega)) hkB
      refine ⟨⟨_, _, _, l', _, _, _, [val (digits x) % k], rfl, dg_t1 (hO2.dg.ext ((Ext'.refl _).add _)), dg_t2 (dg_new (n := 1) (fun z hz => by rw [List.mem_singleton.1 hz]; exact hr) rfl (by decide)), by omega, by omega, ?_, ?_⟩, back_ext (E2.add _)⟩
      · rw [hv2, val_digits, hky]
      · simp only [val, val_digits, hky, Nat.mul_zero, Nat.add_zero]
    · have e2 : ((n' : Int) = 1) = False := eq_false (by omega)
      obtain ⟨N, rfl⟩ : ∃ N, n' = N + 2 := ⟨n' - 2, by omega⟩
      have w1 : IntKind.i64.wrap (((N + 2 : Nat) : Int) - 1) = ((N + 1 : Nat) : Int) := wr64n (by omega) (by omega)
      have htB : (digits y).getD (N + 1) 0 < B := lt_getD (digits_lt y)
      simp (disch := first | exact sideD | fail) only [go_sem, e, e2, w1, ia_33 d2, ld_136' d2]
      apply usep
      case h => exact lz32_ok htB
      rintro _ ⟨k, rfl, hbl, hk32⟩
      obtain ⟨t0, k1, hV1, hV2⟩ := norm_div (by omega) rfl hbl hk32
      obtain ⟨s, hs⟩ : ∃ s, s = 32 - k := ⟨_, rfl⟩
      have hs32 : s < 32 := by omega
      rw [← hs] at hV1 hV2
      rw [← hs]
      simp (disch := first | exact sideD | fail) only [go_sem]
      apply useD
      case hl => exact sideX
      case h => exact shifted_ok d1 (by omega) hs32
      case hR => exact fun _ _ _ h => h
      rintro _ σ1 ⟨pu, lu, rfl, hpu, hOu, hvu⟩ e1 l1
      have n_e1 := e1.next
      try simp only [add_next, set_next, fresh_next, low_next, lw_next] at n_e1
      change σ.next ≤ pu at hpu
      have d2' := d2.ext e1
      simp (disch := first | exact sideD | fail) only [go_sem]
      apply useD
      case hl => exact sideX
      case h => exact shifted_ok d2' (by omega) hs32
      case hR => exact fun _ _ _ h => h
      rintro _ σ2 ⟨pv, lv0, rfl, hpv, hOv, hvv⟩ e2 l2
      have n_e2 := e2.next
      try simp only [add_next, set_next, fresh_next, low_next, lw_next] at n_e2
      change σ1.next ≤ pv at hpv
      have hpuv : pv ≠ pu := by
        have := hOu.lt
        change pu < σ1.next at this
        omega
      have hOu2 := hOu.ext e2
      have d2'' := d2'.ext e2
      have E := e1.trans e2
      simp (disch := first | exact sideD | fail) only [go_sem]
      refine W2_sl33 (k := .i64) (m := N + 2) sideX (by simp (disch := first | exact sideD | fail) only [go_sem]) (by simp (disch := first | exact sideD | fail) only [go_sem]) hOv.dg (Nat.le_succ _) ?_
      have hlvl := hOv.len
      have hlul := hOu.len
      obtain ⟨lv, hlv⟩ : ∃ lv, lv = lv0.take (N + 2) := ⟨_, rfl⟩
      have hDv : Dg cxH σ2 (some ⟨pv, 0, none⟩) (N + 2) (N + 2 + 1) lv := by
        rw [hlv]
        exact hOv.dg.take (Nat.le_succ _)
      rw [val_digits] at hvv hvu
      have hvl : val lv = y * 2 ^ s := by
        rw [hlv, ← hvv]
        exact val_take_of_lt (by rw [hvv]; exact hV1)
      rw [← hvl] at hV1 hV2
      have hlvlen : lv.length = N + 2 := by rw [hlv, List.length_take, hlvl]; omega
      have hVpos : 0 < val lv := by
        have := pow_pos (N + 1 + 1)
        omega
      have hpv2 := hOv.lt
      change pv < σ2.next at hpv2
      clear hlv hvv hOv
      have w3 : IntKind.i64.wrap ((n : Int) - ((N + 2 : Nat) : Int)) = ((n - (N + 2) : Nat) : Int) := wr64n (by omega) (by omega)
      have w4 : IntKind.i64.wrap (((n - (N + 2) + 1 : Nat) : Int) - 1) = ((n - (N + 2) + 1 : Nat) : Int) - 1 := wr64 (by omega) (by omega)
      simp (disch := first | exact sideD | fail) only [go_sem, w3, wi_succ, mk_33, w4]
      obtain ⟨M, hM⟩ : ∃ M, M = n - (N + 2) + 1 := ⟨_, rfl⟩
      rw [← hM]
      have hOq : Own (σ2.add (.row ((List.replicate M 0).map dig) 136)) σ2.next M M none (List.replicate M 0) := own_new (by simp) lt_rep (by omega)
      have hn2 := hOu2.lt
      change pu < σ2.next at hn2
      have E2 : Ext' σ.fresh (σ2.add (.row ((List.replicate M 0).map dig) 136)) := E.add _
      have ea : Ext' σ2 (σ2.add (.row ((List.replicate M 0).map dig) 136)) := (Ext'.refl _).add _
      have start : val (lu.drop M) < val lv := by
        rw [val_drop_div lu M hOu.dig (by omega), hvu, Nat.div_lt_iff_lt_mul (pow_pos M), hvl]
        have h3 : x < B ^ n := digits_lt_pow hl
        have h4 := digits_ge hl2 (by omega)
        have h5 : B ^ n = B ^ (N + 2 - 1) * B ^ M := by rw [← Nat.pow_add]; congr 1; omega
        have hp : 0 < 2 ^ s := Nat.pow_pos (by decide)
        calc x * 2 ^ s < B ^ n * 2 ^ s := Nat.mul_lt_mul_of_pos_right h3 hp
          _ = B ^ (N + 2 - 1) * 2 ^ s * B ^ M := by rw [h5, Nat.mul_right_comm]
          _ ≤ y * 2 ^ s * B ^ M := Nat.mul_le_mul_right _ (Nat.mul_le_mul_right _ h4)
      refine Wloop_inv (fun j g σ' => ∃ (lu lq : List Nat), j ≤ M ∧ g 1 = .slice b' (N + 2) c' ∧ g 8 = .int .i64 (s : Int) ∧ g 9 = .slice (some ⟨pu, 0, none⟩) (n + 1) (n + 1) ∧ g 10 = .slice (some ⟨pv, 0, none⟩) (N + 2) (N + 2 + 1) ∧ g 11 = .slice (some ⟨σ2.next, 0, none⟩) M M ∧ g 12 = .int .i64 ((j : Int) - 1) ∧
          Own σ' pu (n + 1) (n + 1) none lu ∧ Dg cxH σ' (some ⟨pv, 0, none⟩) (N + 2) (N + 2 + 1) lv ∧ Own σ' σ2.next M M none lq ∧ Ext' σ.fresh σ' ∧ val (lu.drop j) < val lv ∧ x * 2 ^ s = val lu + val lv * (B ^ j * val (lq.drop j))) M (by rfl)
        ⟨lu, List.replicate M 0, Nat.le_refl M, by simp (disch := first | exact sideD | fail) only [go_sem], by simp (disch := first | exact sideD | fail) only [go_sem], by simp (disch := first | exact sideD | fail) only [go_sem], by simp (disch := first | exact sideD | fail) only [go_sem], by simp (disch := first | exact sideD | fail) only [go_sem], by simp (disch := first | exact sideD | fail) only [go_sem], hOu2.ext ea, hDv.ext ea, hOq, E2, start, by rw [List.drop_of_length_le (by simp), val_nil, Nat.mul_zero, Nat.mul_zero, Nat.add_zero, hvu]⟩ ?_
      clear hOu hOu2 hOq hDv start hvu E E2 ea e1 e2 l1 l2 n_e1 n_e2 w3 w4 hlul
      rintro j g σ' ⟨lu, lq, hj, g1, g8, g9, g10, g11, g12, hOu, hDv, hOq, E, hlt, hX⟩
      have hlow := E.fresh_le
      have hlul := hOu.len
      have hlql := hOq.len
      by_cases hj0 : j = 0
      · subst hj0
        have e3 : (0 ≤ ((0 : Nat) : Int) - 1) = False := eq_false (by omega)
        simp (disch := first | exact sideD | fail) only [go_sem, g1, g8, g9, g10, g11, g12, e3]
        refine (unshifted_ok hOu (by omega) (by omega) hs32).mono ?_
        rintro v σ3 ⟨⟨lu', hOu3, hv3⟩, hM3⟩
        have hOq3 := own_mod hOq (by omega) hM3
        have E3 := hM3.ext E hpu
        have hlow3 := E3.fresh_le
        rw [blk_all]
        simp (disch := first | exact sideD | fail) only [go_sem, g1, g8, g9, g10, g11, g12]
        refine W2_sl33 (k := .i64) (m := N + 2) sideX (by simp (disch := first | exact sideD | fail) only [go_sem, g9]) (by simp (disch := first | exact sideD | fail) only [go_sem, g1]) hOu3.dg (by omega) ?_
        simp (disch := first | exact sideD | fail) only [go_sem, g11]
        rw [List.drop_zero] at hlt hX
        rw [Nat.pow_zero, Nat.one_mul] at hX
        have q1 : x * 2 ^ s / val lv = val lq := by
          rw [hX, Nat.add_mul_div_left _ _ hVpos, Nat.div_eq_of_lt hlt, Nat.zero_add]
        have q2 : x * 2 ^ s % val lv = val lu := by
          rw [hX, Nat.add_mul_mod_self_left, Nat.mod_eq_of_lt hlt]
        have hp : 0 < 2 ^ s := Nat.pow_pos (by decide)
        rw [hvl, Nat.mul_div_mul_right _ _ hp] at q1
        rw [hvl, Nat.mul_mod_mul_right] at q2
        have q3 : val lu' = x % y := by rw [hv3, ← q2, Nat.mul_div_cancel _ hp]
        refine ⟨⟨_, _, _, lq, _, _, _, lu'.take (N + 2), rfl, dg_t1 hOq3.dg, dg_t2 (hOu3.dg.take (by omega)), by omega, by omega, q1.symm, ?_⟩, back_ext E3⟩
        rw [val_take_of_lt, q3]
        rw [q3]
        exact Nat.lt_trans (Nat.mod_lt _ (by omega)) (digits_lt_pow hl2)
      · obtain ⟨k', rfl⟩ : ∃ k, j = k + 1 := ⟨j - 1, by omega⟩
        rw [show ((k' + 1 : Nat) : Int) - 1 = (k' : Int) by omega] at g12
        have e3 : (0 ≤ (k' : Int)) = True := eq_true (by omega)
        have e4 : IntKind.i64.wrap ((k' : Int) - 1) = (k' : Int) - 1 := wr64 (by omega) (by omega)
        have w5 : IntKind.i64.wrap (((k' + (N + 2) : Nat) : Int) - 1) = ((k' + (N + 1) : Nat) : Int) := wr64n (by omega) (by omega)
        have w6 : IntKind.i64.wrap (((k' + (N + 2) : Nat) : Int) - 2) = ((k' + N : Nat) : Int) := wr64n (by omega) (by omega)
        obtain ⟨win, hwin⟩ : ∃ win, win = (lu.drop k').take (N + 2 + 1) := ⟨_, rfl⟩
        have hwl : win.length = N + 2 + 1 := by rw [hwin, List.length_take, List.length_drop]; omega
        have hlu : lu = lu.take k' ++ win ++ lu.drop (k' + (N + 2 + 1)) := by
          rw [hwin, List.append_assoc, ← List.drop_drop, List.take_append_drop, List.take_append_drop]
        have hU0 : val (lu.drop k') < B * val lv := by
          rw [val_drop_cons (by omega)]
          have h3 : lu.getD k' 0 < B := lt_getD hOu.dig
          have h4 : B * (val (lu.drop (k' + 1)) + 1) ≤ B * val lv := Nat.mul_le_mul_left _ hlt
          rw [Nat.mul_add, Nat.mul_one] at h4
          omega
        have hUB : val (lu.drop k') < B ^ (N + 2 + 1) := by
          rw [Nat.pow_succ']
          exact Nat.lt_trans hU0 (Nat.mul_lt_mul_of_pos_left hV1 B_pos)
        have hsplit := val_take_drop (lu.drop k') (N + 2 + 1) (by rw [List.length_drop]; omega)
        rw [List.drop_drop] at hsplit
        have hpost : val (lu.drop (k' + (N + 2 + 1))) = 0 := by
          rcases Nat.eq_zero_or_pos (val (lu.drop (k' + (N + 2 + 1)))) with h3 | h3
          · exact h3
          · have : B ^ (N + 2 + 1) * 1 ≤ B ^ (N + 2 + 1) * val (lu.drop (k' + (N + 2 + 1))) := Nat.mul_le_mul_left _ h3
            omega
        have hU : val win = val (lu.drop k') := by
          rw [hpost, Nat.mul_zero, Nat.add_zero] at hsplit
          rw [hwin]
          exact hsplit.symm
        have hwB : ∀ z ∈ win, z < B := by rw [hwin]; exact lt_take (lt_drop hOu.dig)
        have hkn := kn_of (N := N) hDv.lt hwB (by omega) (by omega) hV2 (by rw [hU]; exact hU0)
        have hgw : ∀ i, i < N + 2 + 1 → lu[k' + i]? = some (win.getD i 0) := fun i hi => by
          have h3 := win_get (pre := lu.take k') (win := win) (post := lu.drop (k' + (N + 2 + 1))) (i := i) (by omega)
          rw [← hlu, List.length_take, Nat.min_eq_left (by omega)] at h3
          exact h3
        have hw2 := hgw (N + 2) (by omega)
        have hw1 := hgw (N + 1) (by omega)
        have hw0 := hgw N (by omega)
        simp (disch := first | exact sideD | fail) only [go_sem, g1, g8, g9, g10, g11, g12, e3, wi_add, w5, w6, ia_own, hOu.at, lo_ow hw2, lo_ow hw1, lo_ow hw0]
        apply usepD
        case hl => exact sideX
        case h => exact qdigit_ok hDv (by omega) (by omega) (lt_getD hwB) (lt_getD hwB) (lt_getD hwB) hkn
        rintro _ ⟨q, rfl, hq1, hq2, hqB⟩
        have hOu' : Own σ' pu (n + 1) (n + 1) none (lu.take k' ++ win ++ lu.drop (k' + (N + 2 + 1))) := by
          rw [← hlu]
          exact hOu
        have hD : val win / val lv < B := hkn.lt_B
        have hpu2 := hOu.lt
        change pu < σ'.next at hpu2
        simp (disch := first | exact sideD | fail) only [go_sem, g1, g8, g9, g10, g11, g12, wi_add, w5, w6, ia_own, hOu.at, lo_ow hw2, lo_ow hw1, lo_ow hw0]
        apply useW
        case hs => kernel_rfl
        case h => exact reduce_ok (σ := σ'.lw σ'.next) hOu' hDv (fun a ha => by injection ha with ha; subst ha; exact hpuv) (by omega) (by rw [List.length_take, Nat.min_eq_left (by omega)]) hwl hqB hVpos hq1 hq2
        rintro _ σ3 ⟨rfl, ⟨win', hOw, hwl', hvw⟩, hM3⟩
        have hM4 := hM3.drew hlow hpu2
        obtain ⟨σ4, hσ4⟩ : ∃ σ4, σ4 = σ3.lw (min σ'.low σ3.low) := ⟨_, rfl⟩
        rw [← hσ4] at hM4
        have hOw4 : Own σ4 pu (n + 1) (n + 1) none (lu.take k' ++ win' ++ lu.drop (k' + (N + 2 + 1))) := by
          rw [hσ4]
          exact hOw
        rw [← hσ4]
        have E4 := hM4.ext E hpu
        have hlow4 := E4.fresh_le
        have hOq4 := own_mod hOq (by omega) hM4
        have hDv4 := dg_mod hDv (fun a ha => by injection ha with ha; subst ha; exact hpuv) hM4
        obtain ⟨r1, r2⟩ := long_step (D := val win / val lv) (win' := win') (by omega) hlu hwl hwl' (by omega) hU hpost rfl hvw hX
        have hOq5 : Own (σ4.set σ2.next (ow none (lq.set k' (val win / val lv)))) σ2.next M M none _ := hOq4.set hD
        have hOw5 := own_mod hOw4 (p' := σ2.next) (by omega) ((Mod.refl : Sym.Mod σ2.next σ4 σ4).set (ow none (lq.set k' (val win / val lv))))
        have hDv5 := dg_mod hDv4 (p := σ2.next) (fun a ha => by
          injection ha with ha
          subst ha
          have := hpv2
          show pv ≠ σ2.next
          omega) ((Mod.refl : Sym.Mod σ2.next σ4 σ4).set (ow none (lq.set k' (val win / val lv))))
        simp (disch := first | exact sideD | fail) only [go_sem, g1, g8, g9, g10, g11, g12, ia_own, hOq4.at, st_ow, e4]
        refine ⟨k', Nat.lt_succ_self _, _, _, by omega, trivial, trivial, trivial, trivial, trivial, rfl, hOw5, hDv5, hOq5, E4.set _ (by show σ.next ≤ σ2.next; omega), by rw [r2]; exact Nat.mod_lt _ hVpos, r1⟩
end
section
theorem bd_35_1 {b : Option Addr} {n c : Nat} {K : Value → Prop} : Wbd cxH 35 [(1, .slice b n c)] K = K (.agg #[.bool false, .slice b n c]) := by
  have : opBuild cxH 35 [(1, .slice b n c)] = some (.agg #[.bool false, .slice b n c]) := by
    unfold opBuild
    rw [ty_35]
    simp only [Option.bind_eq_bind, Option.bind_some]
    rfl
  unfold Wbd
  rw [this, Wo_some]
theorem lo_35_any {b : Option Addr} {n c : Nat} {neg : Bool} {e : TypeId} {K : Value → Prop} : Wo (loadO cxH 35 0 (.row [.bool neg, .slice b n c] e)) K = K (.agg #[.bool neg, .slice b n c]) := lo_35
theorem gcd_ok {σ : St} {v w : Value} {x y : Int} (h : GInt σ v x) (h2 : GInt σ w y) : C cxH 148 [v, w] σ fun v σ' => IsInt σ' v (Nat.gcd x.natAbs y.natAbs : Nat) ∧ Ext' σ σ' := by
  have hsx := gInt_sz h
  have hsy := gInt_sz h2
  obtain ⟨na, ba, ma, ca, la, rfl, ha, hna, rfl⟩ := h
  obtain ⟨nb, bb, mb, cb, lb, rfl, hb, hnb, rfl⟩ := h2
  have hla := digits_len_le ha.lt
  have hlb := digits_len_le hb.lt
  have hl1 := ha.len
  have hl2 := hb.len
  unfold Sz at hsx hsy
  rw [sval_natAbs] at hsx hsy
  rw [sval_natAbs, sval_natAbs]
  refine C_in (N := 30) (rs := [.cell 4 35]) fn_148 (by rfl) (by rfl) (by rfl) (by rfl) (by rfl) (by rfl) ?_
  have e0 : Ext' σ.fresh (((σ.fresh.add (.row [.bool na, .slice ba ma ca] 35)).add (.row [.bool nb, .slice bb mb cb] 35)).add (.row [.bool false, .slice none 0 0] 35)) := (((Ext'.refl _).add _).add _).add _
  have ha' := (ha.ext (Ext'.to_fresh σ)).ext e0
  have hb' := (hb.ext (Ext'.to_fresh σ)).ext e0
  simp (disch := first | exact sideD | fail) only [go_sem, al_35, lo_35]
  apply useD
  case hl => exact sideX
  case h => exact mag_ok ha' (by omega)
  case hR => exact fun _ _ _ h => h
  rintro _ σ1 ⟨m1, rfl, d1⟩ e1 l1
  have n_e1 := e1.next
  try simp only [add_next, set_next, fresh_next, low_next, lw_next] at n_e1
  have hb1 := hb'.ext e1
  have hm1 := d1.len
  simp (disch := first | exact sideD | fail) only [go_sem]
  apply useD
  case hl => exact sideX
  case h => exact clone_ok' d1 (by omega)
  case hR => exact fun _ _ _ h => h
  rintro _ σ2 ⟨b2, c2, rfl, d2⟩ e2 l2
  have n_e2 := e2.next
  try simp only [add_next, set_next, fresh_next, low_next, lw_next] at n_e2
  have hb2 := hb1.ext e2
  simp (disch := first | exact sideD | fail) only [go_sem, e2.look, e1.look, lo_35]
  apply useD
  case hl => exact sideX
  case h => exact mag_ok hb2 (by omega)
  case hR => exact fun _ _ _ h => h
  rintro _ σ3 ⟨m3, rfl, d3⟩ e3 l3
  have n_e3 := e3.next
  try simp only [add_next, set_next, fresh_next, low_next, lw_next] at n_e3
  have hm3 := d3.len
  simp (disch := first | exact sideD | fail) only [go_sem]
  apply useD
  case hl => exact sideX
  case h => exact clone_ok' d3 (by omega)
  case hR => exact fun _ _ _ h => h
  rintro _ σ4 ⟨b4, c4, rfl, d4⟩ e4 l4
  have n_e4 := e4.next
  try simp only [add_next, set_next, fresh_next, low_next, lw_next] at n_e4
  have d2' := (d2.ext e3).ext e4
  have E := (((e0.trans e1).trans e2).trans e3).trans e4
  have hc : Sym.look cxH σ4 (σ.next + 2) = some (.row [.bool false, .slice none 0 0] 35) := by simp (disch := first | exact sideD | fail) only [go_sem, e4.look, e3.look, e2.look, e1.look]
  simp (disch := first | exact sideD | fail) only [go_sem]
  have hp4 : σ.next + 2 < σ4.next := by omega
  refine Wloop_inv (fun m g σ' => ∃ (X Y : Nat) (bx by' : Option Addr) (n cx' n' cy : Nat), m = Y ∧ X < B ^ 100000 ∧ Y < B ^ 100000 ∧ g 4 = .pointer (some ⟨σ.next + 2, 0, none⟩) ∧ g 5 = .slice bx n cx' ∧ g 6 = .slice by' n' cy ∧ Dg cxH σ' bx n cx' (digits X) ∧ Dg cxH σ' by' n' cy (digits Y) ∧
      Ext' σ.fresh σ' ∧ Sym.look cxH σ' (σ.next + 2) = some (.row [.bool false, .slice none 0 0] 35) ∧ σ.next + 2 < σ'.next ∧ Nat.gcd X Y = Nat.gcd (val la) (val lb)) (val lb) (by rfl)
    ⟨val la, val lb, b2, b4, m1, c2, m3, c4, rfl, hsx, hsy, by simp (disch := first | exact sideD | fail) only [go_sem], by simp (disch := first | exact sideD | fail) only [go_sem], by simp (disch := first | exact sideD | fail) only [go_sem], d2', d4, E, hc, hp4, rfl⟩ ?_
  clear d1 d2 d3 d4 d2' e0 e1 e2 e3 e4 l1 l2 l3 l4 n_e1 n_e2 n_e3 n_e4 E hc hp4 ha' hb' hb1 hb2
  rintro m g σ' ⟨X, Y, bx, by', n, cx', n', cy, rfl, hX, hY, g4, g5, g6, dx, dy, E, hc, hp4, hg⟩
  have hlow := E.fresh_le
  have hlx := dx.len
  have hly := dy.len
  have hlx2 := digits_length hX
  have hly2 := digits_length hY
  by_cases hY0 : m = 0
  · subst hY0
    rw [digits_zero] at hly
    have e : ((0 : Int) < (n' : Int)) = False := eq_false (by simp at hly; omega)
    simp (disch := first | exact sideD | fail) only [go_sem, g4, g5, g6, e]
    apply use
    case hl => exact sideX
    case h => exact canonical_ok (neg := false) dx (by omega)
    rintro v σ5 h5 e5 l5
    have n_e5 := e5.next
    try simp only [add_next, set_next, fresh_next, low_next, lw_next] at n_e5
    rw [Nat.gcd_zero_right] at hg
    have hv : sval false (digits X) = ((Nat.gcd (val la) (val lb) : Nat) : Int) := by
      rw [sval_sv, val_digits, ← hg]
      rfl
    rw [hv] at h5
    have hc5 : Sym.look cxH σ5 (σ.next + 2) = some (.row [.bool false, .slice none 0 0] 35) := by simp (disch := first | exact sideD | fail) only [go_sem, e5.look, hc]
    obtain ⟨b3, n3, c3, rfl, h6, h7⟩ := isInt_put (σ0 := σ) h5 hc5 (E.trans e5) (by omega)
    simp (disch := first | exact sideD | fail) only [go_sem, g4, hc5, st_35, lo_35]
    exact ⟨h6, h7⟩
  · have e : ((0 : Int) < (n' : Int)) = True := eq_true (by
      rw [hly, digits_pos hY0, List.length_cons]
      omega)
    simp (disch := first | exact sideD | fail) only [go_sem, g4, g5, g6, e]
    apply use
    case hl => exact sideX
    case h => exact divide_ok dx dy (by omega) (by omega) hY0
    rintro _ σ5 ⟨aq, mq, cq, lq, ar, mr, cr, lr, rfl, dq, dr, hmq, hmr, hq, hr⟩ e5 l5
    have n_e5 := e5.next
    try simp only [add_next, set_next, fresh_next, low_next, lw_next] at n_e5
    simp (disch := first | exact sideD | fail) only [go_sem, g4, g5, g6, bd_35_1]
    apply use
    case hl => exact sideX
    case h => exact mag_ok dr (by omega)
    rintro _ σ6 ⟨m6, rfl, d6⟩ e6 l6
    have n_e6 := e6.next
    try simp only [add_next, set_next, fresh_next, low_next, lw_next] at n_e6
    have dy' := (dy.ext e5).ext e6
    have E6 := (E.trans e5).trans e6
    have hc6 : Sym.look cxH σ6 (σ.next + 2) = some (.row [.bool false, .slice none 0 0] 35) := by simp (disch := first | exact sideD | fail) only [go_sem, e6.look, e5.look, hc]
    rw [hr] at d6
    have hlt : X % m < m := Nat.mod_lt _ (Nat.pos_of_ne_zero hY0)
    simp (disch := first | exact sideD | fail) only [go_sem, g4, g6]
    refine ⟨X % m, hlt, m, X % m, _, _, _, _, _, _, rfl, hY, Nat.lt_trans hlt hY, trivial, rfl, rfl, dy', d6, E6, hc6, by omega, ?_⟩
    rw [← hg, Nat.gcd_comm m, ← Nat.gcd_rec, Nat.gcd_comm]
end
end
end Go.Proofs.YtfdflggfffajaaaGreatDoor
