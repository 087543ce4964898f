/- Prices, what is light, faults of a cut. -/
import Derived.Test.YtfdflggfffajaaaGreatDoorListB
set_option linter.unusedVariables false
set_option linter.unusedSimpArgs false
set_option linter.unusedSectionVars false
namespace Go.Proofs.YtfdflggfffajaaaGreatDoor
open Go Go.Num Go.Proofs
open Go.Sym hiding val
noncomputable section
attribute [local congr] blk_congr Wpick_congr Wgd_congr Wgd'_congr Wcond_congr Wbin_congr Wun_congr Wconv_congr Wext_congr Wfa_congr Wfd_congr Wia_congr Wld_congr Wlen_congr Wst_congr Wbox_congr WldO_congr WstO_congr Wmk_congr Wsl_congr Wap_congr Wbs_congr Wbd_congr Wfn_congr C_congr
set_option maxHeartbeats 2000000
section
structure Fv where
  s1 : Bool
  b1 : Option Addr
  n1 : Nat
  c1 : Nat
  l1 : List Nat
  s2 : Bool
  b2 : Option Addr
  n2 : Nat
  c2 : Nat
  l2 : List Nat
def encF (f : Fv) : List Value := [.bool f.s1, .slice f.b1 f.n1 f.c1, .bool f.s2, .slice f.b2 f.n2 f.c2]
theorem encF_len (f : Fv) : (encF f).length = 4 := rfl
structure FvOk (σ : St) (f : Fv) : Prop where
  d1 : Dg cxH σ f.b1 f.n1 f.c1 f.l1
  d2 : Dg cxH σ f.b2 f.n2 f.c2 f.l2
  h1 : f.n1 ≤ 1000000000000000000
  h2 : f.n2 ≤ 1000000000000000000
def Fv.q (f : Fv) : Rat := Rat.divInt (sval f.s1 f.l1) (sval f.s2 f.l2)
def SlF (σ : St) (v : Value) (F : List Fv) : Prop := ∃ b n c, v = .slice b n c ∧ Sl cxH σ 4 b n c (F.flatMap encF) ∧ n = F.length ∧ ∀ f ∈ F, FvOk σ f
theorem fvOk_ext {σ σ' : St} {f : Fv} (h : FvOk σ f) (e : Ext' σ σ') : FvOk σ' f := ⟨h.d1.ext e, h.d2.ext e, h.h1, h.h2⟩
theorem slF_ext {σ σ' : St} {v : Value} {F : List Fv} (h : SlF σ v F) (e : Ext' σ σ') : SlF σ' v F := by
  obtain ⟨b, n, c, rfl, h, hn, h2⟩ := h
  exact ⟨b, n, c, rfl, h.ext e, hn, fun f hf => fvOk_ext (h2 f hf) e⟩
def Fv.light (f : Fv) : Prop := f.n1 ≤ 12 ∧ f.n2 ≤ 12
theorem fv_g {σ : St} {f : Fv} (h : FvOk σ f) (hl : f.light) : GFrac σ (.agg ⟨encF f⟩) f.q 12 := by
  refine ⟨f.s1, f.b1, f.n1, f.c1, f.s2, f.b2, f.n2, f.c2, _, _, rfl, ⟨_, _, _, _, _, rfl, h.d1, by have := hl.1; omega, rfl⟩, ⟨_, _, _, _, _, rfl, h.d2, by have := hl.2; omega, rfl⟩, rfl, ?_, ?_⟩
  · have h1 := val_lt h.d1.lt
    have h2 : B ^ f.l1.length ≤ B ^ 12 := Nat.pow_le_pow_right B_pos (by have := hl.1; rw [← h.d1.len]; exact this)
    show (sval f.s1 f.l1).natAbs < B ^ 12
    have : (sval f.s1 f.l1).natAbs = val f.l1 := by unfold sval; cases f.s1 <;> simp
    rw [this]
    exact Nat.lt_of_lt_of_le h1 h2
  · have h1 := val_lt h.d2.lt
    have h2 : B ^ f.l2.length ≤ B ^ 12 := Nat.pow_le_pow_right B_pos (by have := hl.2; rw [← h.d2.len]; exact this)
    show (sval f.s2 f.l2).natAbs < B ^ 12
    have : (sval f.s2 f.l2).natAbs = val f.l2 := by unfold sval; cases f.s2 <;> simp
    rw [this]
    exact Nat.lt_of_lt_of_le h1 h2
theorem light39_ok {σ : St} {b : Option Addr} {c : Nat} {s1 s2 : Bool} {b1 b2 : Option Addr} {n1 c1 n2 c2 : Nat} (h : Sl cxH σ 2 b 2 c [.bool s1, .slice b1 n1 c1, .bool s2, .slice b2 n2 c2]) (h1 : n1 ≤ 1000000000000000000) (h2 : n2 ≤ 1000000000000000000) :
    C cxH 39 [.slice b 2 c] σ fun v σ' => v = .bool (decide (((n1 + n2 : Nat) : Int) ≤ 60)) ∧ σ' = σ := by
  have d := h.ext (Ext'.to_fresh σ)
  have v0 : [Value.bool s1, .slice b1 n1 c1, .bool s2, .slice b2 n2 c2][1]? = some (.slice b1 n1 c1) := rfl
  have v1 : [Value.bool s1, .slice b1 n1 c1, .bool s2, .slice b2 n2 c2][1 * 2 + 1]? = some (.slice b2 n2 c2) := rfl
  refine C_in (N := 21) (rs := [.tmp 2]) fn_39 (by rfl) (by rfl) (by rfl) (by rfl) (by rfl) (by rfl) ?_
  simp (disch := first | exact sideD | fail) only [go_sem]
  refine Wloop_inv (fun m g σ' => ∃ (i t : Nat), m = 2 - i ∧ ((i = 0 ∧ t = 0) ∨ (i = 1 ∧ t = n1) ∨ (i = 2 ∧ t = n1 + n2)) ∧ g 0 = .slice b 2 c ∧ g 3 = .int .i64 (t : Int) ∧ g 4 = .int .i64 (i : Int) ∧ σ' = σ.fresh) 2 (by rfl)
    ⟨0, 0, rfl, .inl ⟨rfl, rfl⟩, by simp (disch := first | exact sideD | fail) only [go_sem], by simp (disch := first | exact sideD | fail) only [go_sem]; rfl, by simp (disch := first | exact sideD | fail) only [go_sem]; rfl, rfl⟩ ?_
  rintro m g _ ⟨i, t, rfl, hi, g0, g3, g4, rfl⟩
  rcases hi with ⟨rfl, rfl⟩ | ⟨rfl, rfl⟩ | ⟨rfl, rfl⟩
  · have e : (((0 : Nat) : Int) < ((2 : Nat) : Int)) = True := eq_true (by omega)
    have e2 : IntKind.i64.wrap (((0 : Nat) : Int) + 1) = ((1 : Nat) : Int) := wi_succ (by omega)
    have hh : Wia cxH 137 (.slice b 2 c) (.int .i64 ((0 : Nat) : Int)) = fun K => K (.pointer (some (elAt b 0))) := funext fun K => ia_137 d (by omega)
    simp (disch := first | exact sideD | fail) only [go_sem, g0, g3, g4, e, hh, fe_35_1, le_33 d v0, wi_add, e2]
    refine ⟨1, by omega, 1, n1, rfl, .inr (.inl ⟨rfl, rfl⟩), trivial, ?_, rfl, trivial⟩
    rw [Nat.zero_add]
  · have e : (((1 : Nat) : Int) < ((2 : Nat) : Int)) = True := eq_true (by omega)
    have e2 : IntKind.i64.wrap (((1 : Nat) : Int) + 1) = ((2 : Nat) : Int) := wi_succ (by omega)
    have hh : Wia cxH 137 (.slice b 2 c) (.int .i64 ((1 : Nat) : Int)) = fun K => K (.pointer (some (elAt b (1 * 2)))) := funext fun K => ia_137 d (by omega)
    simp (disch := first | exact sideD | fail) only [go_sem, g0, g3, g4, e, hh, fe_35_1, le_33 d v1, wi_add, e2]
    exact ⟨0, by omega, 2, _, rfl, .inr (.inr ⟨rfl, rfl⟩), trivial, rfl, rfl, trivial⟩
  · have e : (((2 : Nat) : Int) < ((2 : Nat) : Int)) = False := eq_false (by omega)
    simp (disch := first | exact sideD | fail) only [go_sem, g0, g3, g4, e]
    exact ⟨trivial, back_plain (Ext'.refl _) rfl⟩
end
section
theorem bs_137 {σ : St} {s1 s2 : Bool} {b1 b2 : Option Addr} {n1 c1 n2 c2 : Nat} {K : Value → St → Prop} : Wbs cxH σ 137 2 [(0, .agg #[.bool s1, .slice b1 n1 c1]), (1, .agg #[.bool s2, .slice b2 n2 c2])] K = K (.slice (some ⟨σ.next, 0, none⟩) 2 2) (σ.add (.row [.bool s1, .slice b1 n1 c1, .bool s2, .slice b2 n2 c2] 35)) := by
  have e : opBuildSlice cxH σ 137 2 [(0, .agg #[.bool s1, .slice b1 n1 c1]), (1, .agg #[.bool s2, .slice b2 n2 c2])] = some (.val (.slice (some ⟨σ.next, 0, none⟩) 2 2) (σ.add (.row [.bool s1, .slice b1 n1 c1, .bool s2, .slice b2 n2 c2] 35))) := by
    unfold opBuildSlice
    rw [ty_137]
    simp only [Option.bind_eq_bind, Option.bind_some]
    show (ty cxH 35).bind _ = _
    rw [ty_35]
    rfl
  unfold Wbs
  rw [e, Wr_some]
theorem sl_row {σ : St} {p s n c : Nat} {cs : List Value} {e : TypeId} (h : Sym.look cxH σ p = some (.row cs e)) (hp : p < σ.next) (hl : cs.length = n * s) (hc : n ≤ c) (hcc : c < capBase) : Sl cxH σ s (some ⟨p, 0, none⟩) n c cs := by
  refine ⟨hl, .inl ⟨hcc, hc⟩, (fun e => by cases e), fun a ha => ?_⟩
  injection ha with ha
  subst ha
  refine ⟨hp, fun _ => ⟨rfl, _, h, ?_, ?_⟩⟩
  · show 0 + n * s ≤ cs.length
    omega
  · show (cs.drop 0).take (n * s) = _
    rw [List.drop_zero, List.take_of_length_le (by omega)]
theorem light19_ok {σ : St} {v : Value} {F : List Fv} (h : SlF σ v F) (hF : F.length ≤ 1000000000000000000) : C cxH 19 [v] σ fun v σ' => (∃ b, v = .bool b ∧ (b = true → F.length < 20 ∧ ∀ f ∈ F, f.light)) ∧ σ' = σ := by
  obtain ⟨b, n, c, rfl, h, rfl, hok⟩ := h
  have d := h.ext (Ext'.to_fresh σ)
  refine C_in (N := 46) (rs := [.tmp 2]) fn_19 (by rfl) (by rfl) (by rfl) (by rfl) (by rfl) (by rfl) ?_
  simp (disch := first | exact sideD | fail) only [go_sem]
  refine Wloop_inv (fun m g σ' => ∃ (i : Nat), m = F.length - i ∧ i ≤ F.length ∧ g 0 = .slice b F.length c ∧ g 3 = .int .i64 (i : Int) ∧ Ext' σ.fresh σ' ∧ ∀ f ∈ F.take i, f.light) F.length (by rfl)
    ⟨0, rfl, Nat.zero_le _, by simp (disch := first | exact sideD | fail) only [go_sem], by simp (disch := first | exact sideD | fail) only [go_sem]; rfl, Ext'.refl _, by simp⟩ ?_
  rintro m g σ' ⟨i, rfl, hi, g0, g3, E, hno⟩
  have d1 := d.ext E
  have l1 := E.fresh_le
  by_cases hin : i = F.length
  · subst hin
    have e : ((F.length : Int) < (F.length : Int)) = False := eq_false (by omega)
    simp (disch := first | exact sideD | fail) only [go_sem, g0, g3, e]
    rw [List.take_of_length_le (Nat.le_refl _)] at hno
    exact ⟨⟨_, rfl, fun hb => ⟨by have := of_decide_eq_true hb; omega, hno⟩⟩, back_plain E rfl⟩
  · have e : ((i : Int) < (F.length : Int)) = True := eq_true (by omega)
    have hil : i < F.length := by omega
    obtain ⟨f, hf⟩ : ∃ f, F[i]? = some f := ⟨_, List.getElem?_eq_getElem hil⟩
    have t0 : (F.flatMap encF)[i * 4]? = some (.bool f.s1) := getElem?_flatMap encF_len F i 0 (by omega) f hf
    have t1 : (F.flatMap encF)[i * 4 + 1]? = some (.slice f.b1 f.n1 f.c1) := getElem?_flatMap encF_len F i 1 (by omega) f hf
    have t2 : (F.flatMap encF)[i * 4 + 2]? = some (.bool f.s2) := getElem?_flatMap encF_len F i 2 (by omega) f hf
    have t3 : (F.flatMap encF)[i * 4 + 2 + 1]? = some (.slice f.b2 f.n2 f.c2) := getElem?_flatMap encF_len F i 3 (by omega) f hf
    have hfo := hok f (List.mem_of_getElem? hf)
    have b1 := hfo.h1
    have b2 := hfo.h2
    have hrow : ∀ τ : St, Sl cxH (τ.add (.row [.bool f.s1, .slice f.b1 f.n1 f.c1, .bool f.s2, .slice f.b2 f.n2 f.c2] 35)) 2 (some ⟨τ.next, 0, none⟩) 2 2 [.bool f.s1, .slice f.b1 f.n1 f.c1, .bool f.s2, .slice f.b2 f.n2 f.c2] := fun τ =>
      sl_row (look_add rfl) (Nat.lt_succ_self _) rfl (Nat.le_refl _) (by decide)
    have E1 := E.add (.row [.bool f.s1, .slice f.b1 f.n1 f.c1, .bool f.s2, .slice f.b2 f.n2 f.c2] 35)
    simp (disch := first | exact sideD | fail) only [go_sem, g0, g3, e, ia_22 d1 hil, fe_37_0, fe_37_1, fe_35_1, le_35 d1 t0 t1, le_35 d1 t2 t3, bs_137]
    apply usepD
    case hl => exact sideX
    case h => exact light39_ok (hrow _) b1 b2
    rintro _ rfl
    have d2 : Sl cxH (σ'.add (.row [.bool f.s1, .slice f.b1 f.n1 f.c1, .bool f.s2, .slice f.b2 f.n2 f.c2] 35)) 4 b F.length c (F.flatMap encF) := d1.ext ((Ext'.refl σ').add _)
    by_cases h60 : ((f.n1 + f.n2 : Nat) : Int) ≤ 60
    · have e1 : (((f.n1 + f.n2 : Nat) : Int) ≤ 60) = True := eq_true h60
      by_cases h12 : (12 : Int) < (f.n1 : Int)
      · have e2 : ((12 : Int) < (f.n1 : Int)) = True := eq_true h12
        simp (disch := first | exact sideD | fail) only [go_sem, g0, g3, e1, e2, Wun_not, ia_22 d2 hil, fe_37_0, fe_37_1, fe_35_1, le_33 d2 t1, le_33 d2 t3]
        exact ⟨⟨_, rfl, fun h => by cases h⟩, back_plain E1 rfl⟩
      · have e2 : ((12 : Int) < (f.n1 : Int)) = False := eq_false h12
        by_cases h13 : (12 : Int) < (f.n2 : Int)
        · have e3 : ((12 : Int) < (f.n2 : Int)) = True := eq_true h13
          simp (disch := first | exact sideD | fail) only [go_sem, g0, g3, e1, e2, e3, Wun_not, ia_22 d2 hil, fe_37_0, fe_37_1, fe_35_1, le_33 d2 t1, le_33 d2 t3]
          exact ⟨⟨_, rfl, fun h => by cases h⟩, back_plain E1 rfl⟩
        · have e3 : ((12 : Int) < (f.n2 : Int)) = False := eq_false h13
          simp (disch := first | exact sideD | fail) only [go_sem, g0, g3, e1, e2, e3, Wun_not, ia_22 d2 hil, fe_37_0, fe_37_1, fe_35_1, le_33 d2 t1, le_33 d2 t3, wi_succ]
          refine ⟨F.length - (i + 1), by omega, i + 1, rfl, by omega, trivial, rfl, E1, ?_⟩
          rw [take_snoc hf]
          intro f' hf'
          rcases List.mem_append.1 hf' with h | h
          · exact hno f' h
          · rw [List.mem_singleton.1 h]
            exact ⟨by omega, by omega⟩
    · have e1 : (((f.n1 + f.n2 : Nat) : Int) ≤ 60) = False := eq_false h60
      simp (disch := first | exact sideD | fail) only [go_sem, g0, g3, e1, Wun_not]
      exact ⟨⟨_, rfl, fun h => by cases h⟩, back_plain E1 rfl⟩
structure Cv where
  b : Option Addr
  n : Nat
  c : Nat
  R : List Int
  d : Int
def encC (x : Cv) : List Value := [.slice x.b x.n x.c, .int .i64 x.d]
theorem encC_len (f : Cv) : (encC f).length = 2 := rfl
structure CvOk (σ : St) (x : Cv) : Prop where
  s : Sl cxH σ 1 x.b x.n x.c (ints x.R)
  n : x.n = x.R.length
  h : x.n ≤ 1000000000000000000
  r : ∀ y ∈ x.R, inI y
def SlC (σ : St) (v : Value) (C : List Cv) : Prop := ∃ b n c, v = .slice b n c ∧ Sl cxH σ 2 b n c (C.flatMap encC) ∧ n = C.length ∧ ∀ x ∈ C, CvOk σ x
theorem cvOk_ext {σ σ' : St} {x : Cv} (h : CvOk σ x) (e : Ext' σ σ') : CvOk σ' x := ⟨h.s.ext e, h.n, h.h, h.r⟩
theorem slC_ext {σ σ' : St} {v : Value} {C : List Cv} (h : SlC σ v C) (e : Ext' σ σ') : SlC σ' v C := by
  obtain ⟨b, n, c, rfl, h, hn, h2⟩ := h
  exact ⟨b, n, c, rfl, h.ext e, hn, fun f hf => cvOk_ext (h2 f hf) e⟩
theorem cv_cu {σ : St} {x : Cv} (h : CvOk σ x) : Cu σ (.agg #[.slice x.b x.n x.c, .int .i64 x.d]) x.R x.d := ⟨_, _, _, rfl, h.s, h.n⟩
structure Pr where
  F : List Fv
  C : List Cv
  U : List Fv
  X : List Dx
  r : Bool
structure PrOk (σ : St) (v0 v1 v2 v3 : Value) (p : Pr) : Prop where
  F : SlF σ v0 p.F
  C : SlC σ v1 p.C
  U : SlF σ v2 p.U
  X : SlX σ v3 p.X
  hF : p.F.length ≤ 1000000000000000000
  hC : p.C.length ≤ 1000000000000000000
  hU : p.U.length ≤ 1000000000000000000
  hX : p.X.length ≤ 1000000000000000000
theorem prOk_ext {σ σ' : St} {v0 v1 v2 v3 : Value} {p : Pr} (h : PrOk σ v0 v1 v2 v3 p) (e : Ext' σ σ') : PrOk σ' v0 v1 v2 v3 p := ⟨slF_ext h.F e, slC_ext h.C e, slF_ext h.U e, slX_ext h.X e, h.hF, h.hC, h.hU, h.hX⟩
structure Pr.light (p : Pr) : Prop where
  F : p.F.length < 20 ∧ ∀ f ∈ p.F, f.light
  C : p.C.length ≤ 40 ∧ ∀ x ∈ p.C, x.n ≤ 40
  U : p.U.length ≤ 40 ∧ ∀ f ∈ p.U, f.light
  X : p.X.length ≤ 40
end
section
section
variable {b : Nat} {K : Value → Prop}
theorem fa_26_0 : Wfa cxH 26 0 (.pointer (some ⟨b, 0, none⟩)) K = K (.pointer (some ⟨b, 0, none⟩)) := by
  have : opFieldAddr cxH 26 (.pointer (some ⟨b, 0, none⟩)) 0 = some (.pointer (some ⟨b, 0, none⟩)) := by unfold opFieldAddr; rw [ty_26]; rfl
  unfold Wfa
  rw [this, Wo_some]
theorem fa_26_1 : Wfa cxH 26 1 (.pointer (some ⟨b, 0, none⟩)) K = K (.pointer (some ⟨b, 1, none⟩)) := by
  have : opFieldAddr cxH 26 (.pointer (some ⟨b, 0, none⟩)) 1 = some (.pointer (some ⟨b, 1, none⟩)) := by unfold opFieldAddr; rw [ty_26]; rfl
  unfold Wfa
  rw [this, Wo_some]
theorem fa_26_2 : Wfa cxH 26 2 (.pointer (some ⟨b, 0, none⟩)) K = K (.pointer (some ⟨b, 2, none⟩)) := by
  have : opFieldAddr cxH 26 (.pointer (some ⟨b, 0, none⟩)) 2 = some (.pointer (some ⟨b, 2, none⟩)) := by unfold opFieldAddr; rw [ty_26]; rfl
  unfold Wfa
  rw [this, Wo_some]
theorem fa_26_3 : Wfa cxH 26 3 (.pointer (some ⟨b, 0, none⟩)) K = K (.pointer (some ⟨b, 3, none⟩)) := by
  have : opFieldAddr cxH 26 (.pointer (some ⟨b, 0, none⟩)) 3 = some (.pointer (some ⟨b, 3, none⟩)) := by unfold opFieldAddr; rw [ty_26]; rfl
  unfold Wfa
  rw [this, Wo_some]
theorem fa_26_4 : Wfa cxH 26 4 (.pointer (some ⟨b, 0, none⟩)) K = K (.pointer (some ⟨b, 4, none⟩)) := by
  have : opFieldAddr cxH 26 (.pointer (some ⟨b, 0, none⟩)) 4 = some (.pointer (some ⟨b, 4, none⟩)) := by unfold opFieldAddr; rw [ty_26]; rfl
  unfold Wfa
  rw [this, Wo_some]
theorem lo_22 {o : SObj} {off : Nat} {v : Value} (h : o.cells[off]? = some v) : Wo (loadO cxH 22 off o) K = K v := by
  have : loadO cxH 22 off o = some v := by unfold loadO; rw [ty_22]; exact h
  rw [this, Wo_some]
theorem lo_23 {o : SObj} {off : Nat} {v : Value} (h : o.cells[off]? = some v) : Wo (loadO cxH 23 off o) K = K v := by
  have : loadO cxH 23 off o = some v := by unfold loadO; rw [ty_23]; exact h
  rw [this, Wo_some]
theorem lo_24 {o : SObj} {off : Nat} {v : Value} (h : o.cells[off]? = some v) : Wo (loadO cxH 24 off o) K = K v := by
  have : loadO cxH 24 off o = some v := by unfold loadO; rw [ty_24]; exact h
  rw [this, Wo_some]
variable {x0 x1 x2 x3 x4 : Value} {e : TypeId}
theorem lo_22_0 : Wo (loadO cxH 22 0 (.row [x0, x1, x2, x3, x4] e)) K = K x0 := lo_22 rfl
theorem lo_23_1 : Wo (loadO cxH 23 1 (.row [x0, x1, x2, x3, x4] e)) K = K x1 := lo_23 rfl
theorem lo_22_2 : Wo (loadO cxH 22 2 (.row [x0, x1, x2, x3, x4] e)) K = K x2 := lo_22 rfl
theorem lo_24_3 : Wo (loadO cxH 24 3 (.row [x0, x1, x2, x3, x4] e)) K = K x3 := lo_24 rfl
theorem lo_4_4 : Wo (loadO cxH 4 4 (.row [x0, x1, x2, x3, x4] e)) K = K x4 := lo_4 rfl
theorem lo_26 : Wo (loadO cxH 26 0 (.row [x0, x1, x2, x3, x4] e)) K = K (.agg #[x0, x1, x2, x3, x4]) := by
  have : loadO cxH 26 0 (.row [x0, x1, x2, x3, x4] e) = some (.agg #[x0, x1, x2, x3, x4]) := by unfold loadO; rw [ty_26]; rfl
  rw [this, Wo_some]
end
theorem bs_22 {σ : St} {s1 s2 : Bool} {b1 b2 : Option Addr} {n1 c1 n2 c2 : Nat} {K : Value → St → Prop} : Wbs cxH σ 22 1 [(0, .agg #[.bool s1, .slice b1 n1 c1, .bool s2, .slice b2 n2 c2])] K = K (.slice (some ⟨σ.next, 0, none⟩) 1 1) (σ.add (.row [.bool s1, .slice b1 n1 c1, .bool s2, .slice b2 n2 c2] 37)) := by
  have e : opBuildSlice cxH σ 22 1 [(0, .agg #[.bool s1, .slice b1 n1 c1, .bool s2, .slice b2 n2 c2])] = some (.val (.slice (some ⟨σ.next, 0, none⟩) 1 1) (σ.add (.row [.bool s1, .slice b1 n1 c1, .bool s2, .slice b2 n2 c2] 37))) := by
    unfold opBuildSlice
    rw [ty_22]
    simp only [Option.bind_eq_bind, Option.bind_some]
    show (ty cxH 37).bind _ = _
    rw [ty_37]
    rfl
  unfold Wbs
  rw [e, Wr_some]
theorem lightPrices_ok {σ : St} {v0 v1 v2 v3 : Value} {p : Pr} (h : PrOk σ v0 v1 v2 v3 p) : C cxH 4 [.agg #[v0, v1, v2, v3, .bool p.r]] σ fun v σ' => (∃ b, v = .bool b ∧ (b = true → p.light)) ∧ σ' = σ := by
  have h0 := prOk_ext h (Ext'.to_fresh σ)
  obtain ⟨bF, nF, cF, rfl, -, rfl, -⟩ := id h.F
  obtain ⟨bC, nC, cC, rfl, -, rfl, -⟩ := id h.C
  obtain ⟨bU, nU, cU, rfl, -, rfl, -⟩ := id h.U
  obtain ⟨bX, nX, cX, rfl, -, rfl⟩ := id h.X
  obtain ⟨-, -, -, -, hF, hC, hU, hX⟩ := id h
  refine C_in (N := 60) (rs := [.tmp 2]) fn_4 (by rfl) (by rfl) (by rfl) (by rfl) (by rfl) (by rfl) ?_
  simp (disch := first | exact sideD | fail) only [go_sem]
  have e0 : Ext' σ.fresh (σ.fresh.add (.row [.slice bF p.F.length cF, .slice bC p.C.length cC, .slice bU p.U.length cU, .slice bX p.X.length cX, .bool p.r] 26)) := (Ext'.refl _).add _
  have k0 : Sym.look cxH (σ.fresh.add (.row [.slice bF p.F.length cF, .slice bC p.C.length cC, .slice bU p.U.length cU, .slice bX p.X.length cX, .bool p.r] 26)) σ.next = some (.row [.slice bF p.F.length cF, .slice bC p.C.length cC, .slice bU p.U.length cU, .slice bX p.X.length cX, .bool p.r] 26) := look_add rfl
  have n0 : σ.next < (σ.fresh.add (.row [.slice bF p.F.length cF, .slice bC p.C.length cC, .slice bU p.U.length cU, .slice bX p.X.length cX, .bool p.r] 26)).next := Nat.lt_succ_self _
  have l0 := e0.fresh_le
  generalize σ.fresh.add (.row [.slice bF p.F.length cF, .slice bC p.C.length cC, .slice bU p.U.length cU, .slice bX p.X.length cX, .bool p.r] 26) = τ at e0 k0 n0 l0 ⊢
  have h1 := prOk_ext h0 e0
  have stop : ∀ σ' : St, Ext' τ σ' → (∃ b, Value.bool false = .bool b ∧ (b = true → p.light)) ∧ back σ (.bool false) σ' = σ := fun σ' E => ⟨⟨_, rfl, fun h => by cases h⟩, back_plain (e0.trans E) rfl⟩
  by_cases hF20 : (19 : Int) < (p.F.length : Int)
  · have e1 := eq_true hF20
    simp (disch := first | exact sideD | fail) only [go_sem, k0, fa_26_0, fa_26_1, fa_26_2, fa_26_3, lo_22_0, lo_23_1, lo_22_2, lo_24_3, e1]
    exact stop _ (Ext'.refl _)
  have e1 := eq_false hF20
  by_cases hC40 : (40 : Int) < (p.C.length : Int)
  · have e2 := eq_true hC40
    simp (disch := first | exact sideD | fail) only [go_sem, k0, fa_26_0, fa_26_1, fa_26_2, fa_26_3, lo_22_0, lo_23_1, lo_22_2, lo_24_3, e1, e2]
    exact stop _ (Ext'.refl _)
  have e2 := eq_false hC40
  by_cases hU40 : (40 : Int) < (p.U.length : Int)
  · have e3 := eq_true hU40
    simp (disch := first | exact sideD | fail) only [go_sem, k0, fa_26_0, fa_26_1, fa_26_2, fa_26_3, lo_22_0, lo_23_1, lo_22_2, lo_24_3, e1, e2, e3]
    exact stop _ (Ext'.refl _)
  have e3 := eq_false hU40
  by_cases hX40 : (40 : Int) < (p.X.length : Int)
  · have e4 := eq_true hX40
    simp (disch := first | exact sideD | fail) only [go_sem, k0, fa_26_0, fa_26_1, fa_26_2, fa_26_3, lo_22_0, lo_23_1, lo_22_2, lo_24_3, e1, e2, e3, e4]
    exact stop _ (Ext'.refl _)
  have e4 := eq_false hX40
  simp (disch := first | exact sideD | fail) only [go_sem, k0, fa_26_0, fa_26_1, fa_26_2, fa_26_3, lo_22_0, lo_23_1, lo_22_2, lo_24_3, e1, e2, e3, e4]
  obtain ⟨_, _, _, eq, dC, -, okC⟩ := id h1.C
  injection eq with q1 q2 q3
  subst q1
  subst q2
  subst q3
  refine Wloop_inv (fun m g σ' => ∃ (i : Nat), m = p.C.length - i ∧ i ≤ p.C.length ∧ g 1 = .pointer (some ⟨σ.next, 0, none⟩) ∧ g 3 = .int .i64 (i : Int) ∧ τ = σ' ∧ ∀ x ∈ p.C.take i, x.n ≤ 40) p.C.length (by rfl)
    ⟨0, rfl, Nat.zero_le _, by simp (disch := first | exact sideD | fail) only [go_sem], by simp (disch := first | exact sideD | fail) only [go_sem]; rfl, rfl, by simp⟩ ?_
  rintro m g _ ⟨i, rfl, hi, g1, g3, rfl, hno⟩
  by_cases hin : i = p.C.length
  · subst hin
    have e5 : ((p.C.length : Int) < (p.C.length : Int)) = False := eq_false (by omega)
    rw [List.take_of_length_le (Nat.le_refl _)] at hno
    simp (disch := first | exact sideD | fail) only [go_sem, g1, g3, k0, fa_26_1, lo_23_1, e5]
    obtain ⟨_, _, _, eq, dU, -, okU⟩ := id h1.U
    injection eq with q1 q2 q3
    subst q1
    subst q2
    subst q3
    refine Wloop_inv (fun m g σ' => ∃ (i : Nat), m = p.U.length - i ∧ i ≤ p.U.length ∧ g 1 = .pointer (some ⟨σ.next, 0, none⟩) ∧ g 4 = .int .i64 (i : Int) ∧ Ext' τ σ' ∧ ∀ f ∈ p.U.take i, f.light) p.U.length (by rfl)
      ⟨0, rfl, Nat.zero_le _, by simp (disch := first | exact sideD | fail) only [go_sem, g1], by simp (disch := first | exact sideD | fail) only [go_sem]; rfl, Ext'.refl _, by simp⟩ ?_
    clear g1 g3 e5 hi
    rintro m g σ' ⟨i, rfl, hi, g1, g4, E, hno2⟩
    have k1 := (E.look (cx := cxH) n0).trans k0
    have l1 := E.le l0
    have hp := prOk_ext h1 E
    have dU1 := dU.ext E
    by_cases hin : i = p.U.length
    · subst hin
      have e5 : ((p.U.length : Int) < (p.U.length : Int)) = False := eq_false (by omega)
      rw [List.take_of_length_le (Nat.le_refl _)] at hno2
      simp (disch := first | exact sideD | fail) only [go_sem, g1, g4, k1, fa_26_0, fa_26_2, lo_22_0, lo_22_2, e5]
      apply usep
      case h => exact light19_ok hp.F hF
      rintro _ ⟨bb, rfl, hbb⟩
      simp (disch := first | exact sideD | fail) only [go_sem]
      exact ⟨⟨_, rfl, fun h => ⟨hbb h, ⟨by omega, hno⟩, ⟨by omega, hno2⟩, by omega⟩⟩, back_plain (e0.trans E) rfl⟩
    · have e5 : ((i : Int) < (p.U.length : Int)) = True := eq_true (by omega)
      have hil : i < p.U.length := by omega
      obtain ⟨f, hf⟩ : ∃ f, p.U[i]? = some f := ⟨_, List.getElem?_eq_getElem hil⟩
      have t0 : (p.U.flatMap encF)[i * 4]? = some (.bool f.s1) := getElem?_flatMap encF_len p.U i 0 (by omega) f hf
      have t1 : (p.U.flatMap encF)[i * 4 + 1]? = some (.slice f.b1 f.n1 f.c1) := getElem?_flatMap encF_len p.U i 1 (by omega) f hf
      have t2 : (p.U.flatMap encF)[i * 4 + 2]? = some (.bool f.s2) := getElem?_flatMap encF_len p.U i 2 (by omega) f hf
      have t3 : (p.U.flatMap encF)[i * 4 + 3]? = some (.slice f.b2 f.n2 f.c2) := getElem?_flatMap encF_len p.U i 3 (by omega) f hf
      have hfo := okU f (List.mem_of_getElem? hf)
      have E1 := E.add (.row [.bool f.s1, .slice f.b1 f.n1 f.c1, .bool f.s2, .slice f.b2 f.n2 f.c2] 37)
      have hone : SlF (σ'.add (.row [.bool f.s1, .slice f.b1 f.n1 f.c1, .bool f.s2, .slice f.b2 f.n2 f.c2] 37)) (.slice (some ⟨σ'.next, 0, none⟩) 1 1) [f] :=
        ⟨_, _, _, rfl, sl_row (look_add rfl) (Nat.lt_succ_self _) rfl (Nat.le_refl _) (by decide), rfl, fun x hx => by rw [List.mem_singleton.1 hx]; exact fvOk_ext (fvOk_ext hfo E) ((Ext'.refl _).add _)⟩
      simp (disch := first | exact sideD | fail) only [go_sem, g1, g4, k1, fa_26_2, lo_22_2, e5, ia_22 dU1 hil, le_37 dU1 t0 t1 t2 t3, bs_22]
      apply usep
      case h => exact light19_ok hone (by show 1 ≤ _; omega)
      rintro _ ⟨bb, rfl, hbb⟩
      cases bb with
      | false =>
        simp (disch := first | exact sideD | fail) only [go_sem, Wun_not]
        exact stop _ E1
      | true =>
        simp (disch := first | exact sideD | fail) only [go_sem, g1, g4, Wun_not, wi_succ]
        refine ⟨p.U.length - (i + 1), by omega, i + 1, rfl, by omega, trivial, rfl, E1, ?_⟩
        rw [take_snoc hf]
        intro f' hf'
        rcases List.mem_append.1 hf' with h | h
        · exact hno2 f' h
        · rw [List.mem_singleton.1 h]
          exact (hbb rfl).2 f (List.mem_singleton.2 rfl)
  · have e5 : ((i : Int) < (p.C.length : Int)) = True := eq_true (by omega)
    have hil : i < p.C.length := by omega
    obtain ⟨x, hx⟩ : ∃ x, p.C[i]? = some x := ⟨_, List.getElem?_eq_getElem hil⟩
    have t0 : (p.C.flatMap encC)[i * 2]? = some (.slice x.b x.n x.c) := getElem?_flatMap encC_len p.C i 0 (by omega) x hx
    by_cases hx40 : (40 : Int) < (x.n : Int)
    · have e6 := eq_true hx40
      simp (disch := first | exact sideD | fail) only [go_sem, g1, g3, k0, fa_26_1, lo_23_1, e5, e6, ia_23 dC hil, fe_50_0, le_42 dC t0]
      exact stop _ (Ext'.refl _)
    · have e6 := eq_false hx40
      simp (disch := first | exact sideD | fail) only [go_sem, g1, g3, k0, fa_26_1, lo_23_1, e5, e6, ia_23 dC hil, fe_50_0, le_42 dC t0, wi_succ]
      refine ⟨p.C.length - (i + 1), by omega, i + 1, rfl, by omega, trivial, rfl, trivial, ?_⟩
      rw [take_snoc hx]
      intro f' hf'
      rcases List.mem_append.1 hf' with h | h
      · exact hno f' h
      · rw [List.mem_singleton.1 h]
        omega
theorem lightPairing_ok {σ : St} {v : Value} {L : List (List Tk)} (h : SlP σ v L) (hL : L.length ≤ 1000000000000000000) (hl : ∀ l ∈ L, l.length ≤ 1000000000000000000) : C cxH 5 [v] σ fun v σ' => (∃ b, v = .bool b ∧ (b = true → L.length ≤ 1000 ∧ L.flatten.length ≤ 1000)) ∧ σ' = σ := by
  obtain ⟨s, b, n, c, ds, rfl, h, rfl, h2⟩ := h
  have e0 : Ext' σ.fresh (σ.fresh.add (.row [.string s, .slice b L.length c] 29)) := (Ext'.refl _).add _
  have d1 := (h.ext (Ext'.to_fresh σ)).ext e0
  refine C_in (N := 27) (rs := [.tmp 2]) fn_5 (by rfl) (by rfl) (by rfl) (by rfl) (by rfl) (by rfl) ?_
  simp (disch := first | exact sideD | fail) only [go_sem]
  refine Wloop_inv (fun m g σ' => ∃ (i t : Nat), m = L.length - i ∧ i ≤ L.length ∧ g 1 = .pointer (some ⟨σ.next, 0, none⟩) ∧ g 3 = .int .i64 (t : Int) ∧ g 4 = .int .i64 (i : Int) ∧ σ' = σ.fresh.add (.row [.string s, .slice b L.length c] 29) ∧ t = i + (L.take i).flatten.length) L.length (by rfl)
    ⟨0, 0, rfl, Nat.zero_le _, by simp (disch := first | exact sideD | fail) only [go_sem], by simp (disch := first | exact sideD | fail) only [go_sem]; rfl, by simp (disch := first | exact sideD | fail) only [go_sem]; rfl, rfl, rfl⟩ ?_
  rintro m g _ ⟨i, t, rfl, hi, g1, g3, g4, rfl, ht⟩
  by_cases hin : i = L.length
  · subst hin
    have e5 : ((L.length : Int) < (L.length : Int)) = False := eq_false (by omega)
    rw [List.take_of_length_le (Nat.le_refl _)] at ht
    simp (disch := first | exact sideD | fail) only [go_sem, g1, g3, g4, fa_29_1, lo_27_1, e5]
    exact ⟨⟨_, rfl, fun hb => by have := of_decide_eq_true hb; omega⟩, back_plain e0 rfl⟩
  · have e5 : ((i : Int) < (L.length : Int)) = True := eq_true (by omega)
    have hil : i < L.length := by omega
    by_cases ht1 : (t : Int) < 1000
    · have e6 := eq_true ht1
      obtain ⟨l, hl'⟩ : ∃ l, L[i]? = some l := ⟨_, List.getElem?_eq_getElem hil⟩
      obtain ⟨vd, hv, bd, nd, cd, rfl, hs, rfl⟩ := h2 i l hl'
      have hll := hl l (List.mem_of_getElem? hl')
      have w1 : IntKind.i64.wrap (((t + 1 : Nat) : Int) + (l.length : Int)) = ((t + 1 + l.length : Nat) : Int) := wi_add (by omega)
      simp (disch := first | exact sideD | fail) only [go_sem, g1, g3, g4, fa_29_1, lo_27_1, e5, e6, ia_27 d1 hil, le_54 d1 hv, wi_succ, w1]
      refine ⟨L.length - (i + 1), by omega, i + 1, _, rfl, by omega, trivial, rfl, rfl, trivial, ?_⟩
      rw [flat_snoc hl', List.length_append]
      omega
    · have e6 := eq_false ht1
      have e7 : ((t : Int) < 100) = False := eq_false (by omega)
      simp (disch := first | exact sideD | fail) only [go_sem, g1, g3, g4, fa_29_1, lo_27_1, e5, e6, e7]
      exact ⟨⟨_, rfl, fun hb => by cases hb⟩, back_plain e0 rfl⟩
end
section
def scan (f : Nat → Int) (i : Nat) : Nat → Int
  | 0 => 0
  | m + 1 => if f i ≠ 0 then f i else scan f (i + 1) m
theorem scan_hit {f : Nat → Int} {i n : Nat} {r : Int} (h : scan f i (n - i) = r) (hi : i < n) (hf : f i ≠ 0) : f i = r := by
  rw [show n - i = (n - (i + 1)) + 1 by omega] at h
  unfold scan at h
  rw [if_pos hf] at h
  exact h
theorem scan_next {f : Nat → Int} {i n : Nat} {r : Int} (h : scan f i (n - i) = r) (hi : i < n) (hf : f i = 0) : scan f (i + 1) (n - (i + 1)) = r := by
  rw [show n - i = (n - (i + 1)) + 1 by omega] at h
  unfold scan at h
  rw [if_neg (by simp [hf])] at h
  exact h
theorem scan_end {f : Nat → Int} {n : Nat} {r : Int} (h : scan f n (n - n) = r) : r = 0 := by
  rw [Nat.sub_self] at h
  exact h.symm
def rowAt (n : Int) (R : List Int) (i : Nat) : Int := if bad n (R.getD i 0) = true then 5 else if 0 < i ∧ R.getD i 0 ≤ R.getD (i - 1) 0 then 8 else 0
def rowsE (n : Int) (R : List Int) : Int := scan (rowAt n R) 0 R.length
def cutE (n : Int) (x : Cv) (u : Rat) : Int := if rowsE n x.R ≠ 0 then rowsE n x.R else if x.d < 2 ∨ (x.n : Int) < x.d ∨ 0 < u.num.sign then 5 else 0
theorem getD_of {R : List Int} {i : Nat} {a : Int} (h : R[i]? = some a) : R.getD i 0 = a := by
  rw [List.getD_eq_getElem?_getD, h]
  rfl
theorem bad_l {n a : Int} (h : a < 0) : bad n a = true := by unfold bad; rw [decide_eq_true h]; rfl
theorem bad_r {n a : Int} (h : n ≤ a) : bad n a = true := by unfold bad; rw [decide_eq_true h, Bool.or_true]
theorem bad_n {n a : Int} (h : ¬ a < 0) (h2 : ¬ n ≤ a) : bad n a = false := by unfold bad; rw [decide_eq_false h, decide_eq_false h2]; rfl
theorem rowAt_bad {n : Int} {R : List Int} {i : Nat} {a : Int} (ha : R[i]? = some a) (h : bad n a = true) : rowAt n R i = 5 := by unfold rowAt; rw [getD_of ha, if_pos h]
theorem rowAt_zero {n : Int} {R : List Int} {a : Int} (ha : R[0]? = some a) (h : bad n a = false) : rowAt n R 0 = 0 := by unfold rowAt; rw [getD_of ha, if_neg (by simp [h]), if_neg (by omega)]
theorem rowAt_le {n : Int} {R : List Int} {i : Nat} {a b : Int} (ha : R[i + 1]? = some a) (hb : R[i]? = some b) (h : bad n a = false) (hl : a ≤ b) : rowAt n R (i + 1) = 8 := by
  unfold rowAt
  rw [getD_of ha, if_neg (by simp [h]), if_pos ⟨by omega, by rw [Nat.add_sub_cancel, getD_of hb]; exact hl⟩]
theorem rowAt_ok {n : Int} {R : List Int} {i : Nat} {a b : Int} (ha : R[i + 1]? = some a) (hb : R[i]? = some b) (h : bad n a = false) (hl : ¬ a ≤ b) : rowAt n R (i + 1) = 0 := by
  unfold rowAt
  rw [getD_of ha, if_neg (by simp [h]), if_neg (fun ⟨_, h2⟩ => by rw [Nat.add_sub_cancel, getD_of hb] at h2; exact hl h2)]
theorem cutError_ok {σ : St} {x : Cv} {f : Fv} {n : Int} (hx : CvOk σ x) (hf : FvOk σ f) (hfl : f.light) : C cxH 34 [.int .i64 n, .agg #[.slice x.b x.n x.c, .int .i64 x.d], .agg #[.bool f.s1, .slice f.b1 f.n1 f.c1, .bool f.s2, .slice f.b2 f.n2 f.c2]] σ fun v σ' => v = .int .i64 (cutE n x f.q) ∧ σ' = σ := by
  have e0 : Ext' σ.fresh ((σ.fresh.add (.row [.slice x.b x.n x.c, .int .i64 x.d] 50)).add (.row [.bool f.s1, .slice f.b1 f.n1 f.c1, .bool f.s2, .slice f.b2 f.n2 f.c2] 37)) := ((Ext'.refl _).add _).add _
  have hx1 := cvOk_ext (cvOk_ext hx (Ext'.to_fresh σ)) e0
  have hf1 := fvOk_ext (fvOk_ext hf (Ext'.to_fresh σ)) e0
  refine C_in (N := 53) (rs := [.tmp 6]) fn_34 (by rfl) (by rfl) (by rfl) (by rfl) (by rfl) (by rfl) ?_
  have k1 : Sym.look cxH ((σ.fresh.add (.row [.slice x.b x.n x.c, .int .i64 x.d] 50)).add (.row [.bool f.s1, .slice f.b1 f.n1 f.c1, .bool f.s2, .slice f.b2 f.n2 f.c2] 37)) σ.next = some (.row [.slice x.b x.n x.c, .int .i64 x.d] 50) := by simp (disch := first | exact sideD | fail) only [go_sem]
  have k2 : Sym.look cxH ((σ.fresh.add (.row [.slice x.b x.n x.c, .int .i64 x.d] 50)).add (.row [.bool f.s1, .slice f.b1 f.n1 f.c1, .bool f.s2, .slice f.b2 f.n2 f.c2] 37)) (σ.next + 1) = some (.row [.bool f.s1, .slice f.b1 f.n1 f.c1, .bool f.s2, .slice f.b2 f.n2 f.c2] 37) := by simp (disch := first | exact sideD | fail) only [go_sem]
  simp (disch := first | exact sideD | fail) only [go_sem, k1, fa_50_0, lo_42_0]
  have l0 := e0.fresh_le
  generalize (σ.fresh.add (.row [.slice x.b x.n x.c, .int .i64 x.d] 50)).add (.row [.bool f.s1, .slice f.b1 f.n1 f.c1, .bool f.s2, .slice f.b2 f.n2 f.c2] 37) = τ at e0 k1 k2 hx1 hf1 l0 ⊢
  have d1 := hx1.s
  have hn := hx1.n
  have hh := hx1.h
  obtain ⟨r, hr⟩ : ∃ r, rowsE n x.R = r := ⟨_, rfl⟩
  have hr0 : scan (rowAt n x.R) 0 (x.n - 0) = r := by rw [hn, Nat.sub_zero]; exact hr
  unfold cutE
  rw [hr]
  refine Wloop_inv (fun m g σ' => ∃ (i : Nat), m = x.n - i ∧ i ≤ x.n ∧ g 0 = .int .i64 n ∧ g 4 = .pointer (some ⟨σ.next, 0, none⟩) ∧ g 5 = .pointer (some ⟨σ.next + 1, 0, none⟩) ∧ g 10 = .slice x.b x.n x.c ∧ g 11 = .int .i64 (x.n : Int) ∧ g 12 = .int .i64 (i : Int) ∧ τ = σ' ∧ scan (rowAt n x.R) i (x.n - i) = r) x.n (by rfl)
    ⟨0, rfl, Nat.zero_le _, by simp (disch := first | exact sideD | fail) only [go_sem], by simp (disch := first | exact sideD | fail) only [go_sem], by simp (disch := first | exact sideD | fail) only [go_sem], by simp (disch := first | exact sideD | fail) only [go_sem], by simp (disch := first | exact sideD | fail) only [go_sem], by simp (disch := first | exact sideD | fail) only [go_sem]; rfl, rfl, hr0⟩ ?_
  rintro m g _ ⟨i, rfl, hi, g0, g4, g5, g10, g11, g12, rfl, hsc⟩
  by_cases hin : i = x.n
  · subst hin
    have e : ((x.n : Int) < (x.n : Int)) = False := eq_false (by omega)
    have hr1 := scan_end hsc
    subst hr1
    rw [if_neg (by simp)]
    by_cases h2 : x.d < 2
    · have e1 := eq_true h2
      simp (disch := first | exact sideD | fail) only [go_sem, g0, g4, g5, g10, g11, g12, e, e1, k1, fa_50_1, lo_3_1]
      exact ⟨by simp, back_plain e0 rfl⟩
    have e1 := eq_false h2
    by_cases h3 : (x.n : Int) < x.d
    · have e2 := eq_true h3
      simp (disch := first | exact sideD | fail) only [go_sem, g0, g4, g5, g10, g11, g12, e, e1, e2, k1, fa_50_0, fa_50_1, lo_3_1, lo_42_0]
      exact ⟨by simp, back_plain e0 rfl⟩
    have e2 := eq_false h3
    simp (disch := first | exact sideD | fail) only [go_sem, g0, g4, g5, g10, g11, g12, e, e1, e2, k1, k2, fa_50_0, fa_50_1, lo_3_1, lo_42_0, lo_37]
    apply usep
    case h => exact fsign_ok (fv_g hf1 hfl) (by decide) (by decide)
    rintro _ rfl
    by_cases h4 : 0 < f.q.num.sign
    · have e3 := eq_true h4
      simp (disch := first | exact sideD | fail) only [go_sem, e3]
      exact ⟨by simp, back_plain e0 rfl⟩
    · have e3 := eq_false h4
      simp (disch := first | exact sideD | fail) only [go_sem, e3]
      exact ⟨by rw [if_neg (by rintro (h | h | h) <;> contradiction)], back_plain e0 rfl⟩
  · have e : ((i : Int) < (x.n : Int)) = True := eq_true (by omega)
    have hil : i < x.n := by omega
    obtain ⟨a, ha⟩ : ∃ a, x.R[i]? = some a := ⟨_, List.getElem?_eq_getElem (by omega)⟩
    have hv := ints_get ha
    by_cases h1 : a < 0
    · have e1 := eq_true h1
      have hs := rowAt_bad ha (bad_l (n := n) h1)
      have hq := scan_hit hsc hil (by rw [hs]; decide)
      rw [hs] at hq
      subst hq
      simp (disch := first | exact sideD | fail) only [go_sem, g0, g4, g5, g10, g11, g12, e, e1, ia_42 d1 hil, le_3 d1 hv]
      exact ⟨by rw [if_pos (by decide)], back_plain e0 rfl⟩
    have e1 := eq_false h1
    by_cases h2 : n ≤ a
    · have e2 := eq_true h2
      have hs := rowAt_bad ha (bad_r (n := n) h2)
      have hq := scan_hit hsc hil (by rw [hs]; decide)
      rw [hs] at hq
      subst hq
      simp (disch := first | exact sideD | fail) only [go_sem, g0, g4, g5, g10, g11, g12, e, e1, e2, ia_42 d1 hil, le_3 d1 hv]
      exact ⟨by rw [if_pos (by decide)], back_plain e0 rfl⟩
    have e2 := eq_false h2
    have hb := bad_n h1 h2
    cases i with
    | zero =>
      have hs := scan_next hsc hil (rowAt_zero ha hb)
      have e3 : (0 < ((0 : Nat) : Int)) = False := eq_false (by omega)
      simp (disch := first | exact sideD | fail) only [go_sem, g0, g4, g5, g10, g11, g12, e, e1, e2, e3, ia_42 d1 hil, le_3 d1 hv, wi_succ]
      exact ⟨x.n - 1, by omega, 1, rfl, by omega, trivial, trivial, trivial, trivial, trivial, rfl, trivial, hs⟩
    | succ i =>
      have hil0 : i < x.n := by omega
      obtain ⟨a2, ha2⟩ : ∃ a, x.R[i]? = some a := ⟨_, List.getElem?_eq_getElem (by omega)⟩
      have hv2 := ints_get ha2
      have e3 : (0 < ((i + 1 : Nat) : Int)) = True := eq_true (by omega)
      have w1 : IntKind.i64.wrap (((i + 1 : Nat) : Int) - 1) = (i : Int) := wr64n (by omega) (by omega)
      by_cases h3 : a ≤ a2
      · have e4 := eq_true h3
        have hs := rowAt_le ha ha2 hb h3
        have hq := scan_hit hsc hil (by rw [hs]; decide)
        rw [hs] at hq
        subst hq
        simp (disch := first | exact sideD | fail) only [go_sem, g0, g4, g5, g10, g11, g12, e, e1, e2, e3, e4, w1, k1, fa_50_0, lo_42_0, ia_42 d1 hil, ia_42 d1 hil0, le_3 d1 hv, le_3 d1 hv2]
        exact ⟨by rw [if_pos (by decide)], back_plain e0 rfl⟩
      · have e4 := eq_false h3
        have hs := scan_next hsc hil (rowAt_ok ha ha2 hb h3)
        simp (disch := first | exact sideD | fail) only [go_sem, g0, g4, g5, g10, g11, g12, e, e1, e2, e3, e4, w1, k1, fa_50_0, lo_42_0, ia_42 d1 hil, ia_42 d1 hil0, le_3 d1 hv, le_3 d1 hv2, wi_succ]
        exact ⟨x.n - (i + 1 + 1), by omega, i + 1 + 1, rfl, by omega, trivial, trivial, trivial, trivial, trivial, rfl, trivial, hs⟩
end
end
end Go.Proofs.YtfdflggfffajaaaGreatDoor
