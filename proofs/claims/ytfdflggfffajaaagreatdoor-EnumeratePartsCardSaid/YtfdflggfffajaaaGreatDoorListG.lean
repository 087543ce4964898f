/- EnumerateParts ends with true in the executor. -/
import Derived.Test.YtfdflggfffajaaaGreatDoorListF
set_option linter.unusedVariables false
set_option linter.unusedSimpArgs false
set_option linter.unusedSectionVars false
namespace Go.Proofs.YtfdflggfffajaaaGreatDoor
open Go Go.Num Go.Proofs
open Go.Sym hiding val
noncomputable section
attribute [local congr] blk_congr Wpick_congr Wgd_congr Wgd'_congr Wcond_congr Wbin_congr Wun_congr Wconv_congr Wext_congr Wfa_congr Wfd_congr Wia_congr Wld_congr Wlen_congr Wst_congr Wbox_congr WldO_congr WstO_congr Wmk_congr Wsl_congr Wap_congr Wbs_congr Wbd_congr Wfn_congr C_congr
set_option maxHeartbeats 4000000
section
theorem redA_sz {p : Pr} (hF : ∀ f ∈ p.F, RSz f.q 12) : ∀ {l : List Int} {z : Rat} {k : Nat}, (∀ f ∈ l, 0 ≤ f ∧ f < (p.F.length : Int)) → RSz z k → RSz (redA p z l) (k + 13 * l.length)
  | [], z, k, _, h => rsz_le h (Nat.le_add_right _ _)
  | f :: r, z, k, hl, h => by
    obtain ⟨h0, h1⟩ := hl f List.mem_cons_self
    have hlt : f.toNat < p.F.length := by omega
    have hq : fq p f = (p.F[f.toNat]'hlt).q := by unfold fq; rw [List.getElem?_eq_getElem hlt]
    have := redA_sz hF (l := r) (fun g hg => hl g (List.mem_cons_of_mem _ hg)) (rsz_sub h (hq ▸ hF _ (List.getElem_mem hlt)))
    refine rsz_le this ?_
    rw [List.length_cons]
    omega
theorem cutQ_sz {p : Pr} {l : List Int} {j : Nat} (hU : ∀ f ∈ p.U, RSz f.q 12) (hl : l.length ≤ 1000) (hj : j < p.C.length) (huc : p.U.length = p.C.length) : RSz (cutQ p l j) 14 := by
  have hju : j < p.U.length := by omega
  unfold cutQ
  rw [List.getElem?_eq_getElem hj, List.getElem?_eq_getElem hju]
  have hcf : cf l p.C[j].R p.C[j].d ≤ 1000 := Nat.le_trans (Nat.div_le_self _ _) (Nat.le_trans hits_le hl)
  have szn : RSz ((((cf l p.C[j].R p.C[j].d : Nat) : Int)) : Rat) 2 := ⟨(sz_64 (a := ((cf l p.C[j].R p.C[j].d : Nat) : Int)) (by omega) (by omega)), one_lt_B _ (by decide)⟩
  exact rsz_mul szn (hU _ (List.getElem_mem hju)) (by decide)
theorem redB_sz {p : Pr} {l : List Int} {z : Rat} {k : Nat} (hU : ∀ f ∈ p.U, RSz f.q 12) (hl : l.length ≤ 1000) (huc : p.U.length = p.C.length) (h : RSz z k) : ∀ j, j ≤ p.C.length → RSz (redB p l z j) (k + 15 * j)
  | 0, _ => h
  | j + 1, hj => rsz_le (rsz_sub (redB_sz hU hl huc h j (by omega)) (cutQ_sz hU hl (by omega) huc)) (by omega)
theorem redQ_sz {σ : St} {v0 v1 v2 v3 : Value} {p : Pr} {l : List Int} {a : Int} (h : PrOk σ v0 v1 v2 v3 p) (hr : RedOk p l) (ha : inI a) : RSz (redQ p l a) 100000 := by
  have hF : ∀ f ∈ p.F, RSz f.q 12 := fun f hf => by
    obtain ⟨_, _, _, _, _, _, ok⟩ := h.F
    exact gFrac_rsz (fv_g (ok f hf) (hr.lt.F.2 f hf)) (by decide)
  have hU : ∀ f ∈ p.U, RSz f.q 12 := fun f hf => by
    obtain ⟨_, _, _, _, _, _, ok⟩ := h.U
    exact gFrac_rsz (fv_g (ok f hf) (hr.lt.U.2 f hf)) (by decide)
  have h0 : RSz ((if p.r then 0 else a : Int) : Rat) 2 := ⟨by
    show Sz (if p.r then 0 else a : Int) 2
    cases p.r
    · exact sz_64 ha.1 ha.2
    · exact (sz_zero : Sz 0 2), one_lt_B _ (by decide)⟩
  have e0 : (if p.r then 0 else (a : Rat) : Rat) = ((if p.r then 0 else a : Int) : Rat) := by cases p.r <;> rfl
  unfold redQ
  rw [e0]
  refine rsz_le (redB_sz hU hr.ll hr.uc (redA_sz hF hr.fl h0) p.C.length (Nat.le_refl _)) ?_
  have h1 := hr.ll
  have h2 := hr.lt.C.1
  omega
def rcE (n : Int) (p : Pr) (l : List Int) : Int := if valE n p ≠ 0 then valE n p else if l.any (bad n) = true then 6 else 0
def rcX (n : Int) (p : Pr) (l : List Int) (a : Int) : Int := if rcE n p l = 0 then (redQ p l a).num else 0
def rcY (n : Int) (p : Pr) (l : List Int) (a : Int) : Int := if rcE n p l = 0 then (redQ p l a).den else 0
theorem rc_form {σ : St} {v : Value} {v0 v1 v2 v3 : Value} {n a : Int} {p : Pr} {l : List Int} (h : RC σ v n p l a) (hp : PrOk σ v0 v1 v2 v3 p) (ha : inI a) :
    ∃ n1 b1 m1 c1 n2 b2 m2 c2, v = .tuple #[.agg #[.bool n1, .slice b1 m1 c1, .bool n2, .slice b2 m2 c2], .int .i64 (rcE n p l)] ∧ IsInt σ (.agg #[.bool n1, .slice b1 m1 c1]) (rcX n p l a) ∧ IsInt σ (.agg #[.bool n2, .slice b2 m2 c2]) (rcY n p l a) ∧ Sz (rcX n p l a) 100000 ∧ Sz (rcY n p l a) 100000 := by
  rcases h with ⟨hz, rfl⟩ | ⟨hz, hb, rfl⟩ | ⟨hz, hb, hr, f, rfl, hf⟩
  · have e : rcE n p l = valE n p := if_pos hz
    have e1 : rcX n p l a = 0 := if_neg (by rw [e]; exact hz)
    have e2 : rcY n p l a = 0 := if_neg (by rw [e]; exact hz)
    rw [e1, e2, e]
    exact ⟨_, _, _, _, _, _, _, _, rfl, isInt_zero _, isInt_zero _, sz_zero, sz_zero⟩
  · have e : rcE n p l = 6 := by unfold rcE; rw [if_neg (by simp [hz]), if_pos hb]
    have e1 : rcX n p l a = 0 := if_neg (by rw [e]; decide)
    have e2 : rcY n p l a = 0 := if_neg (by rw [e]; decide)
    rw [e1, e2, e]
    exact ⟨_, _, _, _, _, _, _, _, rfl, isInt_zero _, isInt_zero _, sz_zero, sz_zero⟩
  · have e : rcE n p l = 0 := by unfold rcE; rw [if_neg (by simp [hz]), if_neg (by simp [hb])]
    have e1 : rcX n p l a = (redQ p l a).num := if_pos e
    have e2 : rcY n p l a = (redQ p l a).den := if_pos e
    rw [e1, e2, e]
    obtain ⟨n1, b1, m1, c1, n2, b2, m2, c2, rfl, h1, h2⟩ := hf
    have hs := redQ_sz hp hr ha
    exact ⟨_, _, _, _, _, _, _, _, rfl, h1, h2, hs.1, hs.2⟩
theorem sameInts2_ok {σ : St} {n1 : Bool} {b1 : Option Addr} {m1 c1 : Nat} {n2 : Bool} {b2 : Option Addr} {m2 c2 : Nat} {n3 : Bool} {b3 : Option Addr} {m3 c3 : Nat} {n4 : Bool} {b4 : Option Addr} {m4 c4 : Nat} {x y : Int}
    (hx : IsInt σ (.agg #[.bool n1, .slice b1 m1 c1]) x) (hy : IsInt σ (.agg #[.bool n2, .slice b2 m2 c2]) y) (hz : IsInt σ (.agg #[.bool n3, .slice b3 m3 c3]) x) (hw : IsInt σ (.agg #[.bool n4, .slice b4 m4 c4]) y) (hs : Sz x 100000) (hs2 : Sz y 100000) :
    C cxH 16 [.agg #[.bool n1, .slice b1 m1 c1, .bool n2, .slice b2 m2 c2], .agg #[.bool n3, .slice b3 m3 c3, .bool n4, .slice b4 m4 c4]] σ fun v σ' => v = .bool true ∧ σ' = σ := by
  refine C_in (N := 17) (rs := [.tmp 4]) fn_16 (by rfl) (by rfl) (by rfl) (by rfl) (by rfl) (by rfl) ?_
  have e0 : Ext' σ.fresh ((σ.fresh.add (.row [.bool n1, .slice b1 m1 c1, .bool n2, .slice b2 m2 c2] 37)).add (.row [.bool n3, .slice b3 m3 c3, .bool n4, .slice b4 m4 c4] 37)) := ((Ext'.refl _).add _).add _
  have hx' := isInt_ext (isInt_ext hx (Ext'.to_fresh σ)) e0
  have hy' := isInt_ext (isInt_ext hy (Ext'.to_fresh σ)) e0
  have hz' := isInt_ext (isInt_ext hz (Ext'.to_fresh σ)) e0
  have hw' := isInt_ext (isInt_ext hw (Ext'.to_fresh σ)) e0
  simp (disch := first | exact sideD | fail) only [go_sem, fa_37_0, lo_35_a]
  apply usep
  case h => exact sameInt_ok hx' hz' hs
  rintro _ rfl
  simp (disch := first | exact sideD | fail) only [go_sem, fa_37_1, lo_35_b]
  apply usep
  case h => exact sameInt_ok hy' hw' hs2
  rintro _ rfl
  simp (disch := first | exact sideD | fail) only [go_sem]
  exact ⟨trivial, back_plain e0 rfl⟩
structure Aw (σ : St) : Prop where
  n : 3 < σ.next
  h1 : σ.mem.get 1 = some (.ref 0)
  h2 : σ.mem.get 2 = some (.ref 1)
  h3 : σ.mem.get 3 = some (.ref 2)
theorem aw_ext {σ σ' : St} (h : Aw σ) (e : Ext' σ σ') : Aw σ' := by
  have n := h.n
  exact ⟨Nat.lt_of_lt_of_le n e.next, (e.mem 1 (by omega)).trans h.h1, (e.mem 2 (by omega)).trans h.h2, (e.mem 3 (by omega)).trans h.h3⟩
theorem kn_6 : cxH.known.get 6 = some [ent279] := by kernel_rfl
theorem fn_6 : cxH.fn.get 6 = some Tryz.f6 := by kernel_rfl
theorem body_6 : Tryz.f6.body.isSome = true := by kernel_rfl
theorem aw_known {σ : St} (h : Aw σ) : known cxH 6 [] σ = some (.bool true, σ) := by
  unfold known
  rw [kn_6]
  show (match meets cxH [] σ ent279 with
    | some x => some x
    | none => meetsAny cxH [] σ []) = _
  have e : meets cxH [] σ ent279 = some (.bool true, σ) := by
    show cond (true && true) ((holdRows cxH [(1, 0), (2, 1), (3, 2)] σ).bind fun σ => some (Value.bool true, σ)) none = _
    have r1 : holdsRow cxH σ 1 0 = some σ := by unfold holdsRow; rw [h.h1]; rfl
    have r2 : holdsRow cxH σ 2 1 = some σ := by unfold holdsRow; rw [h.h2]; rfl
    have r3 : holdsRow cxH σ 3 2 = some σ := by unfold holdsRow; rw [h.h3]; rfl
    simp only [holdRows, r1, r2, r3, Option.bind_some, Bool.and_self, cond_true]
  rw [e]
theorem call_6 {σ : St} {K : Value → St → Prop} (h : Aw σ) : Wfn cxH σ (.func (.func 6) #[] #[]) [] K = K (.bool true) σ := by
  refine propext ⟨fun k => ?_, fun k => Wfn_known fn_6 body_6 (aw_known h) k⟩
  have e : callValue cxH σ [] (.func (.func 6) #[] #[]) = some (.enter 6 []) := by
    show (cxH.fn.get 6).bind (callFn cxH σ 6 _) = _
    rw [fn_6]
    show callFn cxH σ 6 _ Tryz.f6 = _
    have hb := body_6
    unfold callFn
    cases hc : Tryz.f6.body with
    | none => rw [hc] at hb; cases hb
    | some c => simp
  unfold Wfn at k
  rw [e] at k
  rcases k with ⟨v, s, h', _⟩ | ⟨f', args', h', k⟩
  · cases h'
  · injection h' with h'
    injection h' with h1 h2
    subst h1 h2
    rcases k with ⟨k, _⟩ | ⟨v, h1, h2⟩
    · rw [kn_6] at k
      cases k
    · rw [aw_known h] at h1
      injection h1 with h1
      injection h1 with h1 _
      subst h1
      exact h2
theorem coefV_form (l R : List Int) (d : Int) : ∃ x y : Int, coefV l R d = .tuple #[.int .i64 x, .int .i64 y] := by
  unfold coefV
  split
  · exact ⟨_, _, rfl⟩
  · exact ⟨_, _, rfl⟩
end
section
theorem prOk_lw {σ : St} {v0 v1 v2 v3 : Value} {p : Pr} {a : Nat} (h : PrOk σ v0 v1 v2 v3 p) : PrOk (σ.lw a) v0 v1 v2 v3 p := by
  obtain ⟨⟨b, n, c, rfl, f1, f2, f3⟩, ⟨b2, n2, c2, rfl, g1, g2, g3⟩, ⟨b4, n4, c4, rfl, u1, u2, u3⟩, hX, q1, q2, q3, q4⟩ := h
  exact ⟨⟨b, n, c, rfl, f1, f2, fun f hf => fvOk_lw (f3 f hf)⟩, ⟨b2, n2, c2, rfl, g1, g2, fun f hf => cvOk_lw (g3 f hf)⟩, ⟨b4, n4, c4, rfl, u1, u2, fun f hf => fvOk_lw (u3 f hf)⟩, hX, q1, q2, q3, q4⟩
theorem enumerateParts_ok {σ : St} {v0 v1 v2 v3 w : Value} {p : Pr} {L : List (List Tk)} {n a : Int} (h : PrOk σ v0 v1 v2 v3 p) (hw : SlP σ w L) (hL : L.length ≤ 1000000000000000000) (hl : ∀ l ∈ L, l.length ≤ 1000000000000000000) (ha : inI a) (hA : Aw σ) :
    C cxH 3 [.int .i64 n, .agg #[v0, v1, v2, v3, .bool p.r], w, .int .i64 a] σ fun v _ => v = .bool true := by
  have h0 := prOk_ext h (Ext'.to_fresh σ)
  have hw0 := slP_ext hw (Ext'.to_fresh σ)
  have hA0 := aw_ext hA (Ext'.to_fresh σ)
  obtain ⟨bF, nF, cF, rfl, -, rfl, -⟩ := id h.F
  obtain ⟨bC, nC, cC, rfl, -, rfl, -⟩ := id h.C
  obtain ⟨bU, nU, cU, rfl, -, rfl, -⟩ := id h.U
  obtain ⟨bX, nX, cX, rfl, -, rfl⟩ := id h.X
  obtain ⟨sw, bw, nw, cw, rfl⟩ := slP_agg hw
  refine C_in (N := 116) (rs := [.tmp 8]) fn_3 (by rfl) (by rfl) (by rfl) (by rfl) (by rfl) (by rfl) ?_
  simp (disch := first | exact sideX | fail) only [go_sem, bx_29]
  have e0 : Ext' σ.fresh ((σ.fresh.add (.row [.slice bF p.F.length cF, .slice bC p.C.length cC, .slice bU p.U.length cU, .slice bX p.X.length cX, .bool p.r] 26)).add (.row [.string sw, .slice bw nw cw] 29)) := ((Ext'.refl _).add _).add _
  have kx : Sym.look cxH ((σ.fresh.add (.row [.slice bF p.F.length cF, .slice bC p.C.length cC, .slice bU p.U.length cU, .slice bX p.X.length cX, .bool p.r] 26)).add (.row [.string sw, .slice bw nw cw] 29)) σ.next = some (.row [.slice bF p.F.length cF, .slice bC p.C.length cC, .slice bU p.U.length cU, .slice bX p.X.length cX, .bool p.r] 26) := by simp (disch := first | exact sideD | fail) only [go_sem]
  have kp : Sym.look cxH ((σ.fresh.add (.row [.slice bF p.F.length cF, .slice bC p.C.length cC, .slice bU p.U.length cU, .slice bX p.X.length cX, .bool p.r] 26)).add (.row [.string sw, .slice bw nw cw] 29)) (σ.next + 1) = some (.row [.string sw, .slice bw nw cw] 29) := by simp (disch := first | exact sideD | fail) only [go_sem]
  have n0 : σ.next + 1 < ((σ.fresh.add (.row [.slice bF p.F.length cF, .slice bC p.C.length cC, .slice bU p.U.length cU, .slice bX p.X.length cX, .bool p.r] 26)).add (.row [.string sw, .slice bw nw cw] 29)).next := Nat.lt_succ_self _
  have l0 := e0.fresh_le
  generalize (σ.fresh.add (.row [.slice bF p.F.length cF, .slice bC p.C.length cC, .slice bU p.U.length cU, .slice bX p.X.length cX, .bool p.r] 26)).add (.row [.string sw, .slice bw nw cw] 29) = τ at e0 kx kp n0 l0 ⊢
  have h1 := prOk_ext h0 e0
  have hw1 := slP_ext hw0 e0
  have hA1 := aw_ext hA0 e0
  clear h0 hw0 hA0
  simp (disch := first | exact sideD | fail) only [go_sem, kx, lo_26]
  apply usep
  case h => exact lightPrices_ok h1
  rintro _ ⟨lb, rfl, hlb⟩
  cases lb with
  | false =>
    simp (disch := first | exact sideD | fail) only [go_sem, Wun_not, call_6 hA1]
  | true =>
  have hlt := hlb rfl
  simp (disch := first | exact sideD | fail) only [go_sem, Wun_not, kp, lo_29]
  apply usep
  case h => exact lightPairing_ok hw1 hL hl
  rintro _ ⟨lq, rfl, hlq⟩
  cases lq with
  | false =>
    simp (disch := first | exact sideD | fail) only [go_sem, Wun_not, call_6 hA1]
  | true =>
  obtain ⟨hL1, hF1⟩ := hlq rfl
  simp (disch := first | exact sideD | fail) only [go_sem, Wun_not, kx, kp, lo_26, lo_29]
  apply use
  case hl => exact sideX
  case h => exact reducedCost_ok h1 hlt hw1 hL1 hF1 ha
  rintro vr σ1 hrc e1 l1
  have n_e1 := e1.next
  try simp only [add_next, set_next, fresh_next, low_next, lw_next] at n_e1
  have h2 := prOk_ext h1 e1
  have hw2 := slP_ext hw1 e1
  have hA2 := aw_ext hA1 e1
  obtain ⟨s1, b1, m1, c1, s2, b2, m2, c2, rfl, hI1, hI2, hz1, hz2⟩ := rc_form hrc h2 ha
  have kx1 := (e1.look (cx := cxH) (i := σ.next) (by omega)).trans kx
  have kp1 := (e1.look (cx := cxH) n0).trans kp
  have e2 : Ext' σ1 ((σ1.add (.row [.bool false, .slice none 0 0, .bool false, .slice none 0 0] 37)).set σ1.next (.row [.bool s1, .slice b1 m1 c1, .bool s2, .slice b2 m2 c2] 37)) := ((Ext'.refl _).add _).set _ (Nat.le_refl _)
  have k2 : Sym.look cxH ((σ1.add (.row [.bool false, .slice none 0 0, .bool false, .slice none 0 0] 37)).set σ1.next (.row [.bool s1, .slice b1 m1 c1, .bool s2, .slice b2 m2 c2] 37)) σ1.next = some (.row [.bool s1, .slice b1 m1 c1, .bool s2, .slice b2 m2 c2] 37) := look_set rfl
  have n2 : σ1.next < ((σ1.add (.row [.bool false, .slice none 0 0, .bool false, .slice none 0 0] 37)).set σ1.next (.row [.bool s1, .slice b1 m1 c1, .bool s2, .slice b2 m2 c2] 37)).next := Nat.lt_succ_self _
  simp (disch := first | exact sideX | fail) only [go_sem, al_37, st_37, kx1, kp1]
  have l2 := e2.le l1
  generalize (σ1.add (.row [.bool false, .slice none 0 0, .bool false, .slice none 0 0] 37)).set σ1.next (.row [.bool s1, .slice b1 m1 c1, .bool s2, .slice b2 m2 c2] 37) = τ2 at e2 k2 n2 l2 ⊢
  have h3 := prOk_ext h2 e2
  have hw3 := slP_ext hw2 e2
  have hA3 := aw_ext hA2 e2
  have hI1 := isInt_ext hI1 e2
  have hI2 := isInt_ext hI2 e2
  have kx2 := (e2.look (cx := cxH) (i := σ.next) (by have := e1.next; omega)).trans kx1
  have kp2 := (e2.look (cx := cxH) (i := σ.next + 1) (by have := e1.next; omega)).trans kp1
  clear h1 hw1 hA1 h2 hw2 hA2 hrc kx kp kx1 kp1
  simp (disch := first | exact sideD | fail) only [go_sem, kx2, kp2, lo_26, lo_29]
  apply use
  case hl => exact sideX
  case h => exact rreducedCost_ok h3 hlt hw3 hL1 hF1 ha
  rintro vq σ3 hrc e3 l3
  have n_e3 := e3.next
  try simp only [add_next, set_next, fresh_next, low_next, lw_next] at n_e3
  have h4 := prOk_ext h3 e3
  have hw4 := slP_ext hw3 e3
  have hA4 := aw_ext hA3 e3
  have hI1 := isInt_ext hI1 e3
  have hI2 := isInt_ext hI2 e3
  obtain ⟨s3, b3, m3, c3, s4, b4, m4, c4, rfl, hI3, hI4, -, -⟩ := rc_form hrc h4 ha
  have kx3 := (e3.look (cx := cxH) (i := σ.next) (by have := e1.next; have := e2.next; omega)).trans kx2
  have kp3 := (e3.look (cx := cxH) (i := σ.next + 1) (by have := e1.next; have := e2.next; omega)).trans kp2
  have k3 := (e3.look (cx := cxH) n2).trans k2
  have e4 : Ext' σ3 ((σ3.add (.row [.bool false, .slice none 0 0, .bool false, .slice none 0 0] 37)).set σ3.next (.row [.bool s3, .slice b3 m3 c3, .bool s4, .slice b4 m4 c4] 37)) := ((Ext'.refl _).add _).set _ (Nat.le_refl _)
  have kr : Sym.look cxH ((σ3.add (.row [.bool false, .slice none 0 0, .bool false, .slice none 0 0] 37)).set σ3.next (.row [.bool s3, .slice b3 m3 c3, .bool s4, .slice b4 m4 c4] 37)) σ3.next = some (.row [.bool s3, .slice b3 m3 c3, .bool s4, .slice b4 m4 c4] 37) := look_set rfl
  have n4 : σ3.next < ((σ3.add (.row [.bool false, .slice none 0 0, .bool false, .slice none 0 0] 37)).set σ3.next (.row [.bool s3, .slice b3 m3 c3, .bool s4, .slice b4 m4 c4] 37)).next := Nat.lt_succ_self _
  simp (disch := first | exact sideX | fail) only [go_sem, al_37, st_37, kx3, kp3]
  have l4 := e4.le l3
  generalize (σ3.add (.row [.bool false, .slice none 0 0, .bool false, .slice none 0 0] 37)).set σ3.next (.row [.bool s3, .slice b3 m3 c3, .bool s4, .slice b4 m4 c4] 37) = τ4 at e4 kr n4 l4 ⊢
  have h5 := prOk_ext h4 e4
  have hw5 := slP_ext hw4 e4
  have hA5 := aw_ext hA4 e4
  have hI1 := isInt_ext hI1 e4
  have hI2 := isInt_ext hI2 e4
  have hI3 := isInt_ext hI3 e4
  have hI4 := isInt_ext hI4 e4
  have kx4 := (e4.look (cx := cxH) (i := σ.next) (by have := e1.next; have := e2.next; have := e3.next; omega)).trans kx3
  have kp4 := (e4.look (cx := cxH) (i := σ.next + 1) (by have := e1.next; have := e2.next; have := e3.next; omega)).trans kp3
  have k4 := (e4.look (cx := cxH) (i := σ1.next) (by have := e3.next; omega)).trans k3
  have n1 : σ.next + 1 < τ4.next := by have := e1.next; have := e2.next; have := e3.next; have := e4.next; omega
  have n3 : σ1.next < τ4.next := by have := e3.next; have := e4.next; omega
  clear h3 hw3 hA3 h4 hw4 hA4 hrc kx2 kp2 kx3 kp3 k2 k3 e0 e1 e2 e3 e4 n0 n2 l0 l1 l2 l3
  simp (disch := first | exact sideD | fail) only [go_sem, kp4, lo_29]
  apply useD
  case hl => exact sideX
  case h => exact operated_ok hw5 hL1 hF1
  case hR => exact fun _ _ _ h => h
  rintro vo σ5 ho e5 l5
  have n_e5 := e5.next
  try simp only [add_next, set_next, fresh_next, low_next, lw_next] at n_e5
  have kp5 := (e5.look (cx := cxH) n1).trans kp4
  have hw6 := slP_ext hw5 e5
  simp (disch := first | exact sideD | fail) only [go_sem, kp5, lo_29]
  apply useD
  case hl => exact sideX
  case h => exact rOperated_ok hw6 hL1 hF1
  case hR => exact fun _ _ _ h => h
  rintro vq σ6 hq e6 l6
  have n_e6 := e6.next
  try simp only [add_next, set_next, fresh_next, low_next, lw_next] at n_e6
  have e56 := e5.trans e6
  have ho6 := li_ext ho e6
  have h7 := prOk_ext h5 e56
  have hw7 := slP_ext hw5 e56
  have hA7 := aw_ext hA5 e56
  have kx7 := (e56.look (cx := cxH) (i := σ.next) (by omega)).trans kx4
  have kp7 := (e56.look (cx := cxH) n1).trans kp4
  have k7 := (e56.look (cx := cxH) n3).trans k4
  have kr7 := (e56.look (cx := cxH) n4).trans kr
  have hI1 := isInt_ext hI1 e56
  have hI2 := isInt_ext hI2 e56
  have hI3 := isInt_ext hI3 e56
  have hI4 := isInt_ext hI4 e56
  have hfl : (flownL L).length ≤ 1000000 := flownL_le hF1
  have hX6 : p.X.length ≤ 1000000 := by have := hlt.X; omega
  obtain ⟨bo, no, co, rfl⟩ := li_slice ho
  obtain ⟨bq, nq, cq, rfl⟩ := li_slice hq
  clear ho
  simp (disch := first | exact sideD | fail) only [go_sem]
  apply usepD
  case hl => exact sideX
  case h => exact sameInts_ok ho6 hq hfl
  rintro _ rfl
  simp (disch := first | exact sideD | fail) only [go_sem, Wun_not, kx7, kp7, fa_26_3, lo_24_3, lo_29]
  apply usepD
  case hl => exact sideX
  case h => exact allowed_ok h7.X hX6 hw7 hL1 hF1
  rintro _ rfl
  generalize hab : allowedB p.X (flownL L) = ab
  have eab : (ab != ab) = false := bne_self_eq_false ab
  simp (disch := first | exact sideD | fail) only [go_sem, Wun_not, kx7, kp7, fa_26_3, lo_24_3, lo_29]
  apply usepD
  case hl => exact sideX
  case h => exact rAllowed_ok h7.X hX6 hw7 hL1 hF1
  rintro _ rfl
  rw [hab]
  simp (disch := first | exact sideD | fail) only [go_sem, wbin_neq_bool, eab, kx7, lo_26]
  apply usepD
  case hl => exact sideX
  case h => exact validate_ok (prOk_lw h7) hlt
  rintro _ rfl
  generalize hve : valE n p = ve
  have eve : (ve = ve) = True := eq_self ve
  simp (disch := first | exact sideD | fail) only [go_sem, kx7, lo_26]
  apply usepD
  case hl => exact sideX
  case h => exact rvalidate_ok (prOk_lw h7) hlt
  rintro _ rfl
  rw [hve]
  have erc : (rcE n p (flownL L) = rcE n p (flownL L)) = True := eq_self _
  simp (disch := first | exact sideD | fail) only [go_sem, eve, erc, k7, kr7, lo_37]
  apply usepD
  case hl => exact sideX
  case h => exact sameInts2_ok hI1 hI2 hI3 hI4 hz1 hz2
  rintro _ rfl
  simp (disch := first | exact sideD | fail) only [go_sem, Wun_not]
  clear hI1 hI2 hI3 hI4 hz1 hz2 k7 kr7 ho6 hq e5 e6 e56 l5 h5 hw5 hA5 hw6 kp5 kx4 kp4 k4 kr
  obtain ⟨_, _, _, eq, dC, -, okC⟩ := id h7.C
  injection eq with q1 q2 q3
  subst q1
  subst q2
  subst q3
  have hC40 := hlt.C.1
  refine Wloop_inv (fun m g σ' => ∃ (i : Nat), m = p.C.length - i ∧ i ≤ p.C.length ∧ g 5 = .pointer (some ⟨σ.next, 0, none⟩) ∧ g 6 = .pointer (some ⟨σ.next + 1, 0, none⟩) ∧ g 13 = .int .i64 (i : Int) ∧ σ6 = σ') p.C.length (by rfl)
    ⟨0, rfl, Nat.zero_le _, by simp (disch := first | exact sideD | fail) only [go_sem], by simp (disch := first | exact sideD | fail) only [go_sem], by simp (disch := first | exact sideD | fail) only [go_sem]; rfl, rfl⟩ ?_
  rintro m g _ ⟨i, rfl, hi, g5, g6, g13, rfl⟩
  by_cases hin : i = p.C.length
  · subst hin
    have e : ((p.C.length : Int) < (p.C.length : Int)) = False := eq_false (by omega)
    simp (disch := first | exact sideD | fail) only [go_sem, g5, g6, g13, kx7, fa_26_1, lo_23_1, e, call_6 hA7]
  · have e : ((i : Int) < (p.C.length : Int)) = True := eq_true (by omega)
    have hil : i < p.C.length := by omega
    obtain ⟨x, hx⟩ : ∃ x, p.C[i]? = some x := ⟨_, List.getElem?_eq_getElem hil⟩
    have s0 : (p.C.flatMap encC)[i * 2]? = some (.slice x.b x.n x.c) := getElem?_flatMap encC_len p.C i 0 (by omega) x hx
    have s1' : (p.C.flatMap encC)[i * 2 + 1]? = some (.int .i64 x.d) := getElem?_flatMap encC_len p.C i 1 (by omega) x hx
    have okx := okC x (List.mem_of_getElem? hx)
    have hx40 := hlt.C.2 x (List.mem_of_getElem? hx)
    have hxR : x.R.length ≤ 1000000 := by rw [← okx.n]; omega
    obtain ⟨cn, cc, hcv⟩ := coefV_form (flownL L) x.R x.d
    have ecn : (cn = cn) = True := eq_self cn
    have ecc : (cc = cc) = True := eq_self cc
    simp (disch := first | exact sideD | fail) only [go_sem, g5, g6, g13, kx7, kp7, fa_26_1, lo_23_1, e, ia_23 dC hil, le_50 dC s0 s1', lo_29]
    apply usepD
    case hl => exact sideX
    case h => exact coefficientE_ok (cv_cu (cvOk_lw okx)) hxR hw7 hL1 hF1
    rintro _ rfl
    rw [hcv]
    simp (disch := first | exact sideD | fail) only [go_sem, g5, g6, g13, kx7, kp7, fa_26_1, lo_23_1, ia_23 dC hil, le_50 dC s0 s1', lo_29]
    apply usepD
    case hl => exact sideX
    case h => exact rCoefficient_ok (cv_cu (cvOk_lw okx)) hxR hw7 hL1 hF1
    rintro _ rfl
    rw [hcv]
    simp (disch := first | exact sideD | fail) only [go_sem, g5, g6, g13, ecn, ecc, wi_succ]
    exact ⟨p.C.length - (i + 1), by omega, i + 1, rfl, by omega, trivial, trivial, rfl, trivial⟩
end
end
end Go.Proofs.YtfdflggfffajaaaGreatDoor
