/- Slices, pairings, flights, equal lists, coefficients. -/
import Derived.Test.YtfdflggfffajaaaGreatDoorFracB
set_option linter.unusedVariables false
set_option linter.unusedSimpArgs false
set_option linter.unusedSectionVars false
namespace Go.Proofs.YtfdflggfffajaaaGreatDoor
open Go Go.Num Go.Proofs
open Go.Sym hiding val
noncomputable section
attribute [local congr] blk_congr Wpick_congr Wgd_congr Wgd'_congr Wcond_congr Wbin_congr Wun_congr Wconv_congr Wext_congr Wfa_congr Wfd_congr Wia_congr Wld_congr Wlen_congr Wst_congr Wbox_congr WldO_congr WstO_congr Wmk_congr Wsl_congr Wap_congr Wbs_congr Wbd_congr Wfn_congr C_congr
set_option maxHeartbeats 2000000
section
section
variable {g : Fm} {σ : St} {K : Value → St → Prop} {x : Operand} {ty' : TypeId}
theorem len_22 : Wop cxH ty' (.call { callee := .builtin .len, args := #[x], argTypes := #[22] }) g σ K = Wlen (ev g x) fun v => K v σ := Wop_len ty_22 rfl rfl rfl
theorem len_23 : Wop cxH ty' (.call { callee := .builtin .len, args := #[x], argTypes := #[23] }) g σ K = Wlen (ev g x) fun v => K v σ := Wop_len ty_23 rfl rfl rfl
theorem len_24 : Wop cxH ty' (.call { callee := .builtin .len, args := #[x], argTypes := #[24] }) g σ K = Wlen (ev g x) fun v => K v σ := Wop_len ty_24 rfl rfl rfl
theorem len_27 : Wop cxH ty' (.call { callee := .builtin .len, args := #[x], argTypes := #[27] }) g σ K = Wlen (ev g x) fun v => K v σ := Wop_len ty_27 rfl rfl rfl
theorem len_42 : Wop cxH ty' (.call { callee := .builtin .len, args := #[x], argTypes := #[42] }) g σ K = Wlen (ev g x) fun v => K v σ := Wop_len ty_42 rfl rfl rfl
theorem len_54 : Wop cxH ty' (.call { callee := .builtin .len, args := #[x], argTypes := #[54] }) g σ K = Wlen (ev g x) fun v => K v σ := Wop_len ty_54 rfl rfl rfl
theorem len_137 : Wop cxH ty' (.call { callee := .builtin .len, args := #[x], argTypes := #[137] }) g σ K = Wlen (ev g x) fun v => K v σ := Wop_len ty_137 rfl rfl rfl
end
attribute [go_sem ↓] len_22 len_23 len_24 len_27 len_42 len_54 len_137
section
variable {σ : St} {s : Nat} {b : Option Addr} {n c : Nat} {cs : List Value} {i j : Nat} {k : IntKind} {K : Value → Prop} {v : Value}
theorem ia_42 (h : Sl cxH σ s b n c cs) (hi : i < n) : Wia cxH 42 (.slice b n c) (.int k (i : Int)) K = K (.pointer (some (elAt b i))) := by
  have := Wia_sl (k := k) (K := K) ty_42 rfl ty_3 h hi
  rw [this]
  show K (.pointer (some (elAt b (i * 1)))) = _
  rw [Nat.mul_one]
theorem ia_27 (h : Sl cxH σ s b n c cs) (hi : i < n) : Wia cxH 27 (.slice b n c) (.int k (i : Int)) K = K (.pointer (some (elAt b i))) := by
  have := Wia_sl (k := k) (K := K) ty_27 rfl ty_54 h hi
  rw [this]
  show K (.pointer (some (elAt b (i * 1)))) = _
  rw [Nat.mul_one]
theorem ia_54 (h : Sl cxH σ s b n c cs) (hi : i < n) : Wia cxH 54 (.slice b n c) (.int k (i : Int)) K = K (.pointer (some (elAt b (i * 2)))) := Wia_sl ty_54 rfl ty_88 h hi
theorem ia_23 (h : Sl cxH σ s b n c cs) (hi : i < n) : Wia cxH 23 (.slice b n c) (.int k (i : Int)) K = K (.pointer (some (elAt b (i * 2)))) := Wia_sl ty_23 rfl ty_50 h hi
theorem ia_24 (h : Sl cxH σ s b n c cs) (hi : i < n) : Wia cxH 24 (.slice b n c) (.int k (i : Int)) K = K (.pointer (some (elAt b (i * 3)))) := Wia_sl ty_24 rfl ty_91 h hi
theorem ia_22 (h : Sl cxH σ s b n c cs) (hi : i < n) : Wia cxH 22 (.slice b n c) (.int k (i : Int)) K = K (.pointer (some (elAt b (i * 4)))) := Wia_sl ty_22 rfl ty_37 h hi
theorem ia_137 (h : Sl cxH σ s b n c cs) (hi : i < n) : Wia cxH 137 (.slice b n c) (.int k (i : Int)) K = K (.pointer (some (elAt b (i * 2)))) := Wia_sl ty_137 rfl ty_35 h hi
theorem elAt_add {f : Nat} : (elAt b j).add f = elAt b (j + f) := by
  unfold elAt Addr.add
  by_cases hj : j = 0
  · subst hj
    by_cases hf : f = 0
    · subst hf
      simp
    · simp [hf]
  · by_cases hf : f = 0
    · subst hf
      simp [hj]
    · simp [hj, hf, Nat.add_assoc]
theorem fe_of {t t' : TypeId} {ti fi : TI} {fields : Array Field} {f : Field} {m : Nat} (ht : ty cxH t = some ti) (hd : ti.desc = .struct fields) (hf : fields.toList[m]? = some f) (hfi : ty cxH t' = some fi) (hft : f.type = t') (hz : fi.size ≠ 0) {off : Nat} (ho : f.offset = off) :
    Wfa cxH t m (.pointer (some (elAt b j))) K = K (.pointer (some (elAt b (j + off)))) := by
  subst ho
  have : opFieldAddr cxH t (.pointer (some (elAt b j))) m = some (.pointer (some (elAt b (j + f.offset)))) := by
    unfold opFieldAddr
    rw [ht]
    simp only [Option.bind_eq_bind, Option.bind_some, addrOf, hd, hf, hft, hfi, guard', hz, ne_eq, not_false_eq_true, decide_true, if_true, elAt_add]
  unfold Wfa
  rw [this, Wo_some]
theorem fe_88_0 : Wfa cxH 88 0 (.pointer (some (elAt b j))) K = K (.pointer (some (elAt b j))) := fe_of ty_88 rfl (by rfl) ty_3 rfl (by decide) rfl (off := 0)
theorem fe_88_1 : Wfa cxH 88 1 (.pointer (some (elAt b j))) K = K (.pointer (some (elAt b (j + 1)))) := fe_of ty_88 rfl (by rfl) ty_4 rfl (by decide) rfl (off := 1)
theorem fe_50_0 : Wfa cxH 50 0 (.pointer (some (elAt b j))) K = K (.pointer (some (elAt b j))) := fe_of ty_50 rfl (by rfl) ty_42 rfl (by decide) rfl (off := 0)
theorem fe_50_1 : Wfa cxH 50 1 (.pointer (some (elAt b j))) K = K (.pointer (some (elAt b (j + 1)))) := fe_of ty_50 rfl (by rfl) ty_3 rfl (by decide) rfl (off := 1)
theorem fe_37_0 : Wfa cxH 37 0 (.pointer (some (elAt b j))) K = K (.pointer (some (elAt b j))) := fe_of ty_37 rfl (by rfl) ty_35 rfl (by decide) rfl (off := 0)
theorem fe_37_1 : Wfa cxH 37 1 (.pointer (some (elAt b j))) K = K (.pointer (some (elAt b (j + 2)))) := fe_of ty_37 rfl (by rfl) ty_35 rfl (by decide) rfl (off := 2)
theorem fe_35_1 : Wfa cxH 35 1 (.pointer (some (elAt b j))) K = K (.pointer (some (elAt b (j + 1)))) := fe_of ty_35 rfl (by rfl) ty_33 rfl (by decide) rfl (off := 1)
theorem le_3 (h : Sl cxH σ s b n c cs) (hv : cs[i]? = some v) : Wld cxH σ 3 (.pointer (some (elAt b i))) K = K v := Wld_el ty_3 rfl h hv
theorem le_4 (h : Sl cxH σ s b n c cs) (hv : cs[i]? = some v) : Wld cxH σ 4 (.pointer (some (elAt b i))) K = K v := Wld_el ty_4 rfl h hv
theorem le_33 (h : Sl cxH σ s b n c cs) (hv : cs[i]? = some v) : Wld cxH σ 33 (.pointer (some (elAt b i))) K = K v := Wld_el ty_33 rfl h hv
theorem le_42 (h : Sl cxH σ s b n c cs) (hv : cs[i]? = some v) : Wld cxH σ 42 (.pointer (some (elAt b i))) K = K v := Wld_el ty_42 rfl h hv
theorem le_54 (h : Sl cxH σ s b n c cs) (hv : cs[i]? = some v) : Wld cxH σ 54 (.pointer (some (elAt b i))) K = K v := Wld_el ty_54 rfl h hv
theorem le_agg {t : TypeId} {ti : TI} {l : List Value} (ht : ty cxH t = some ti) (hd : isAggD ti.desc = true) (h : Sl cxH σ s b n c cs) (hl : l.length = ti.size) (hp : 0 < ti.size) (hv : ∀ m, m < ti.size → cs[i + m]? = l[m]?) : Wld cxH σ t (.pointer (some (elAt b i))) K = K (.agg ⟨l⟩) := by
  have hi : i + ti.size ≤ n * s := by
    have h1 := hv (ti.size - 1) (by omega)
    rw [List.getElem?_eq_getElem (l := l) (by omega)] at h1
    have h2 := (List.getElem?_eq_some_iff.1 h1).1
    rw [h.len] at h2
    omega
  rw [Wld_elAgg ht hd hp h hi]
  have : (cs.drop i).take ti.size = l := by
    apply List.ext_getElem?
    intro m
    by_cases hm : m < ti.size
    · rw [List.getElem?_take_of_lt hm, List.getElem?_drop, hv m hm]
    · rw [List.getElem?_eq_none (by rw [List.length_take]; omega), List.getElem?_eq_none (by omega)]
  rw [this]
theorem le_35 {x y : Value} (h : Sl cxH σ s b n c cs) (h0 : cs[i]? = some x) (h1 : cs[i + 1]? = some y) : Wld cxH σ 35 (.pointer (some (elAt b i))) K = K (.agg #[x, y]) :=
  le_agg (l := [x, y]) ty_35 rfl h rfl (by decide) fun m hm => by
    have : m = 0 ∨ m = 1 := by change m < 2 at hm; omega
    rcases this with rfl | rfl <;> assumption
theorem le_88 {x y : Value} (h : Sl cxH σ s b n c cs) (h0 : cs[i]? = some x) (h1 : cs[i + 1]? = some y) : Wld cxH σ 88 (.pointer (some (elAt b i))) K = K (.agg #[x, y]) :=
  le_agg (l := [x, y]) ty_88 rfl h rfl (by decide) fun m hm => by
    have : m = 0 ∨ m = 1 := by change m < 2 at hm; omega
    rcases this with rfl | rfl <;> assumption
theorem le_50 {x y : Value} (h : Sl cxH σ s b n c cs) (h0 : cs[i]? = some x) (h1 : cs[i + 1]? = some y) : Wld cxH σ 50 (.pointer (some (elAt b i))) K = K (.agg #[x, y]) :=
  le_agg (l := [x, y]) ty_50 rfl h rfl (by decide) fun m hm => by
    have : m = 0 ∨ m = 1 := by change m < 2 at hm; omega
    rcases this with rfl | rfl <;> assumption
theorem le_91 {x y z : Value} (h : Sl cxH σ s b n c cs) (h0 : cs[i]? = some x) (h1 : cs[i + 1]? = some y) (h2 : cs[i + 2]? = some z) : Wld cxH σ 91 (.pointer (some (elAt b i))) K = K (.agg #[x, y, z]) :=
  le_agg (l := [x, y, z]) ty_91 rfl h rfl (by decide) fun m hm => by
    have : m = 0 ∨ m = 1 ∨ m = 2 := by change m < 3 at hm; omega
    rcases this with rfl | rfl | rfl <;> assumption
theorem le_37 {x y z w : Value} (h : Sl cxH σ s b n c cs) (h0 : cs[i]? = some x) (h1 : cs[i + 1]? = some y) (h2 : cs[i + 2]? = some z) (h3 : cs[i + 3]? = some w) : Wld cxH σ 37 (.pointer (some (elAt b i))) K = K (.agg #[x, y, z, w]) :=
  le_agg (l := [x, y, z, w]) ty_37 rfl h rfl (by decide) fun m hm => by
    have : m = 0 ∨ m = 1 ∨ m = 2 ∨ m = 3 := by change m < 4 at hm; omega
    rcases this with rfl | rfl | rfl | rfl <;> assumption
end
theorem getElem?_flatMap {α β : Type} {enc : α → List β} {s : Nat} (hs : ∀ a, (enc a).length = s) : ∀ (l : List α) (i o : Nat), o < s → ∀ a, l[i]? = some a → (l.flatMap enc)[i * s + o]? = (enc a)[o]?
  | [], i, o, _, a, h => by simp at h
  | x :: r, 0, o, ho, a, h => by
    simp only [List.getElem?_cons_zero, Option.some.injEq] at h
    subst h
    rw [List.flatMap_cons, Nat.zero_mul, Nat.zero_add, List.getElem?_append_left (by rw [hs]; exact ho)]
  | x :: r, i + 1, o, ho, a, h => by
    rw [List.getElem?_cons_succ] at h
    rw [List.flatMap_cons, List.getElem?_append_right (by rw [hs, Nat.succ_mul]; omega), hs, show (i + 1) * s + o - s = i * s + o by rw [Nat.succ_mul]; omega]
    exact getElem?_flatMap hs r i o ho a h
theorem length_flatMap' {α β : Type} {enc : α → List β} {s : Nat} (hs : ∀ a, (enc a).length = s) : ∀ (l : List α), (l.flatMap enc).length = l.length * s
  | [] => by simp
  | x :: r => by rw [List.flatMap_cons, List.length_append, hs, length_flatMap' hs r, List.length_cons, Nat.succ_mul]; omega
theorem sl_none {w w' : Mw} {s n c : Nat} {cs : List Value} (h : SlW cxH w s none n c cs) : SlW cxH w' s none n c cs := by
  obtain ⟨h1, h2⟩ := h.nil rfl
  subst h1
  subst h2
  have := h.len
  rw [Nat.zero_mul] at this
  have : cs = [] := List.length_eq_zero_iff.1 this
  subst this
  exact SlW.none
theorem sl_back {σ0 σ : St} {s : Nat} {b : Option Addr} {n c m m' : Nat} {cs : List Value} {v : Value} (h : Sl cxH σ s b n c cs) (hv : plain v = true → b = none) : Sl cxH (back σ0 v σ) s b n c cs := by
  unfold back
  cases hp : plain v with
  | true =>
    have := hv hp
    subst this
    exact sl_none h
  | false => exact ⟨h.len, h.cap, h.nil, h.at'⟩
theorem plain_sl {b : Option Addr} {n c : Nat} (h : plain (.slice b n c) = true) : b = none := by
  simp only [plain, Bool.and_eq_true] at h
  cases b with
  | none => rfl
  | some a => simp at h
def ints (l : List Int) : List Value := l.map (.int .i64)
def inI (x : Int) : Prop := -9223372036854775808 ≤ x ∧ x < 9223372036854775808
def Li (σ : St) (v : Value) (l : List Int) : Prop := ∃ b n c, v = .slice b n c ∧ Sl cxH σ 1 b n c (ints l) ∧ n = l.length
theorem li_ext {σ σ' : St} {v : Value} {l : List Int} (h : Li σ v l) (e : Ext' σ σ') : Li σ' v l := by
  obtain ⟨b, n, c, rfl, h, hn⟩ := h
  exact ⟨b, n, c, rfl, h.ext e, hn⟩
theorem li_back {σ0 σ : St} {v : Value} {l : List Int} (h : Li σ v l) : Li (back σ0 v σ) v l := by
  obtain ⟨b, n, c, rfl, h, hn⟩ := h
  exact ⟨b, n, c, rfl, sl_back (m := n) (m' := c) h plain_sl, hn⟩
theorem ints_get {l : List Int} {i : Nat} {x : Int} (h : l[i]? = some x) : (ints l)[i]? = some (.int .i64 x) := by
  unfold ints
  rw [List.getElem?_map, h]
  rfl
def St.grow (σ : St) (n : Nat) (cs : List Value) : St := { next := σ.next + 1, nextC := σ.nextC + 1, mem := σ.mem.set σ.next (some (.own (.opn cs 3 1 σ.nextC))), caps := σ.caps.set σ.nextC (some n), low := σ.low }
def Out (σ0 σ : St) (v : Value) (l : List Int) : Prop := (l = [] ∧ v = .slice none 0 0) ∨ ∃ p c, v = .slice (some ⟨p, 0, none⟩) l.length (capBase + c) ∧ Sym.look cxH σ p = some (.opn (ints l) 3 1 c) ∧ σ.caps.get c = some l.length ∧ c < σ.nextC ∧ σ0.next ≤ p ∧ p < σ.next
theorem bs_42 {σ : St} {x : Int} {K : Value → St → Prop} : Wbs cxH σ 42 1 [(0, .int .i64 x)] K = K (.slice (some ⟨σ.next, 0, none⟩) 1 1) (σ.add (.row [.int .i64 x] 3)) := by
  have e : opBuildSlice cxH σ 42 1 [(0, .int .i64 x)] = some (.val (.slice (some ⟨σ.next, 0, none⟩) 1 1) (σ.add (.row [.int .i64 x] 3))) := by
    unfold opBuildSlice
    rw [ty_42]
    simp only [Option.bind_eq_bind, Option.bind_some]
    show (ty cxH 3).bind _ = _
    rw [ty_3]
    rfl
  unfold Wbs
  rw [e, Wr_some]
theorem grow_ext {σ0 σ : St} {n : Nat} {cs : List Value} (E : Ext' σ0 σ) : Ext' σ0 (St.grow σ n cs) := by
  obtain ⟨h1, h2, h3, h4, h5, h6⟩ := E
  refine ⟨Nat.le_succ_of_le h1, Nat.le_succ_of_le h2, h3, fun i hi => ?_, fun i hi => ?_, fun h => Nat.le_succ_of_le (h6 h)⟩
  · show (σ.mem.set σ.next _).get i = _
    rw [Tr.get_set, if_neg (by omega)]
    exact h4 i hi
  · show (σ.caps.set σ.nextC _).get i = _
    rw [Tr.get_set, if_neg (by omega)]
    exact h5 i hi
theorem gone_ext {σ0 σ : St} {p : Nat} (E : Ext' σ0 σ) (hp : σ0.next ≤ p) : Ext' σ0 (goneFrom σ p) := by
  obtain ⟨h1, h2, h3, h4, h5, h6⟩ := E
  refine ⟨h1, h2, ?_, fun i hi => ?_, h5, fun h => ?_⟩
  · show min σ0.low σ0.next ≤ min σ.low p
    omega
  · show (σ.mem.set p none).get i = _
    rw [Tr.get_set, if_neg (by omega)]
    exact h4 i hi
  · have := h6 h
    show min σ.low p ≤ σ.next
    omega
theorem grow_look {σ : St} {n : Nat} {cs : List Value} : Sym.look cxH (St.grow σ n cs) σ.next = some (.opn cs 3 1 σ.nextC) := by
  show ((σ.mem.set σ.next _).get σ.next).bind _ = _
  rw [Tr.get_set, if_pos rfl]
  rfl
theorem grow_caps {σ : St} {n : Nat} {cs : List Value} : (St.grow σ n cs).caps.get σ.nextC = some n := by
  show (σ.caps.set σ.nextC _).get σ.nextC = _
  rw [Tr.get_set, if_pos rfl]
theorem grow_out {σ0 σ : St} {l : List Int} (h : σ0.next ≤ σ.next) : Out σ0 (St.grow σ l.length (ints l)) (.slice (some ⟨σ.next, 0, none⟩) l.length (capBase + σ.nextC)) l :=
  .inr ⟨_, _, rfl, grow_look, grow_caps, Nat.lt_succ_self _, h, Nat.lt_succ_self _⟩
theorem out_append {σ0 σ : St} {v : Value} {l : List Int} {x : Int} (h : Out σ0 σ v l) (E : Ext' σ0 σ) (hl : l.length < 100000) :
    ∃ b' n' c' σ', (∀ K, Wap cxH (σ.add (.row [.int .i64 x] 3)) 42 42 v (.slice (some ⟨σ.next, 0, none⟩) 1 1) K = K (.slice b' n' c') σ') ∧ Out σ0 σ' (.slice b' n' c') (l ++ [x]) ∧ Ext' σ0 σ' ∧ σ.next ≤ σ'.next := by
  have E1 : Ext' σ0 (σ.add (.row [.int .i64 x] 3)) := E.add _
  have hn : σ0.next ≤ σ.next := E.next
  have hnews : newsOf cxH (σ.add (.row [.int .i64 x] 3)) 1 (.int .i64 0) (.slice 3) (.slice (some ⟨σ.next, 0, none⟩) 1 1) = some (1, [.int .i64 x]) := by
    show (Sym.loadCells cxH (σ.add (.row [.int .i64 x] 3)) ⟨σ.next, 0, none⟩ (1 * 1)).bind _ = _
    unfold Sym.loadCells
    rw [look_add (cx := cxH) (σ := σ) (o := .row [.int .i64 x] 3) rfl]
    rfl
  rcases h with ⟨rfl, rfl⟩ | ⟨p, c, rfl, h1, h2, h3, h4, h5⟩
  · refine ⟨some ⟨σ.next + 1, 0, none⟩, 1, capBase + σ.nextC, St.grow (σ.add (.row [.int .i64 x] 3)) 1 [.int .i64 x], fun K => ?_, grow_out (l := [x]) (Nat.le_succ_of_le hn), grow_ext E1, ?_⟩
    · have e : opAppend cxH (σ.add (.row [.int .i64 x] 3)) 42 42 (.slice none 0 0) (.slice (some ⟨σ.next, 0, none⟩) 1 1) = some (.val (.slice (some ⟨σ.next + 1, 0, none⟩) 1 (capBase + σ.nextC)) (St.grow (σ.add (.row [.int .i64 x] 3)) 1 [.int .i64 x])) := by
        unfold opAppend
        rw [ty_42]
        simp only [Option.bind_eq_bind, Option.bind_some]
        show (ty cxH 3).bind _ = _
        rw [ty_3]
        show appElem cxH (σ.add (.row [.int .i64 x] 3)) 3 (TI.of Tryz.t3 Tryz.t3) (TI.of Tryz.t42 Tryz.t42) (.int .i64 0) none 0 0 _ _ = _
        unfold appElem
        show cond true ((newsOf cxH (σ.add (.row [.int .i64 x] 3)) 1 (.int .i64 0) (.slice 3) (.slice (some ⟨σ.next, 0, none⟩) 1 1)).bind _) none = _
        rw [hnews]
        rfl
      unfold Wap
      rw [e, Wr_some]
    · show σ.next ≤ σ.next + 1 + 1
      omega
  · have hlook : Sym.look cxH (σ.add (.row [.int .i64 x] 3)) p = some (.opn (ints l) 3 1 c) := (look_add_lt h5).trans h1
    refine ⟨some ⟨σ.next + 1, 0, none⟩, (l ++ [x]).length, capBase + σ.nextC, St.grow (goneFrom (σ.add (.row [.int .i64 x] 3)) p) (l ++ [x]).length (ints (l ++ [x])), fun K => ?_, grow_out (l := l ++ [x]) (Nat.le_succ_of_le hn), grow_ext (gone_ext E1 h4), ?_⟩
    · have e : opAppend cxH (σ.add (.row [.int .i64 x] 3)) 42 42 (.slice (some ⟨p, 0, none⟩) l.length (capBase + c)) (.slice (some ⟨σ.next, 0, none⟩) 1 1) = some (.val (.slice (some ⟨σ.next + 1, 0, none⟩) (l ++ [x]).length (capBase + σ.nextC)) (St.grow (goneFrom (σ.add (.row [.int .i64 x] 3)) p) (l ++ [x]).length (ints (l ++ [x])))) := by
        unfold opAppend
        rw [ty_42]
        simp only [Option.bind_eq_bind, Option.bind_some]
        show (ty cxH 3).bind _ = _
        rw [ty_3]
        show appElem cxH (σ.add (.row [.int .i64 x] 3)) 3 (TI.of Tryz.t3 Tryz.t3) (TI.of Tryz.t42 Tryz.t42) (.int .i64 0) (some ⟨p, 0, none⟩) l.length (capBase + c) _ _ = _
        unfold appElem
        show cond true ((newsOf cxH (σ.add (.row [.int .i64 x] 3)) 1 (.int .i64 0) (.slice 3) (.slice (some ⟨σ.next, 0, none⟩) 1 1)).bind _) none = _
        rw [hnews]
        show cond (true && Nat.ble (l.length + 1) 1000000) (appAny cxH (σ.add (.row [.int .i64 x] 3)) 3 1 (some ⟨p, 0, none⟩) l.length (capBase + c) _ 1 [.int .i64 x]) none = _
        rw [Nat.ble_eq_true_of_le (by omega)]
        show appAny cxH (σ.add (.row [.int .i64 x] 3)) 3 1 (some ⟨p, 0, none⟩) l.length (capBase + c) _ 1 [.int .i64 x] = _
        have hb : Nat.blt (capBase + c) capBase = false := by
          unfold Nat.blt
          exact Bool.eq_false_iff.2 fun e => by have := Nat.le_of_ble_eq_true e; omega
        show cond (Nat.blt (capBase + c) capBase) _ _ = _
        rw [hb]
        show appOpen cxH (σ.add (.row [.int .i64 x] 3)) 3 1 ⟨p, 0, none⟩ l.length (capBase + c) 1 [.int .i64 x] = _
        unfold appOpen
        rw [hlook]
        have h6 : ((σ.add (.row [.int .i64 x] 3)).caps.get c).isSome = true := by
          show (σ.caps.get c).isSome = true
          rw [h2]; rfl
        have h7 : Nat.ble (l.length * 1) (ints l).length = true := Nat.ble_eq_true_of_le (by unfold ints; simp)
        have h8 : (ints l).take (l.length * 1) ++ [.int .i64 x] = ints (l ++ [x]) := by
          unfold ints
          rw [List.take_of_length_le (by simp)]
          simp
        simp only [h6, h7, h8, Option.isNone_none, Nat.beq_refl, Bool.and_self, cond_true, Nat.beq]
        rw [List.length_append]
        rfl
      unfold Wap
      rw [e, Wr_some]
    · show σ.next ≤ σ.next + 1 + 1
      omega
theorem out_slice {σ0 σ : St} {v : Value} {l : List Int} (h : Out σ0 σ v l) : ∃ b n c, v = .slice b n c := by
  rcases h with ⟨rfl, rfl⟩ | ⟨p, c, rfl, -⟩
  · exact ⟨_, _, _, rfl⟩
  · exact ⟨_, _, _, rfl⟩
theorem out_li {σ0 σ : St} {v : Value} {l : List Int} (h : Out σ0 σ v l) : Li σ v l := by
  rcases h with ⟨rfl, rfl⟩ | ⟨p, c, rfl, h1, h2, h3, h4, h5⟩
  · exact ⟨none, 0, 0, rfl, SlW.none, rfl⟩
  · refine ⟨_, _, _, rfl, ⟨by unfold ints; simp, .inr ⟨Nat.le_add_right _ _, ?_, _, ?_, Nat.le_refl _⟩, (fun e => by cases e), fun a ha => ?_⟩, rfl⟩
    · rw [Nat.add_sub_cancel_left]
      exact h3
    · rw [Nat.add_sub_cancel_left]
      exact h2
    · injection ha with ha
      subst ha
      refine ⟨h5, fun _ => ⟨rfl, _, h1, ?_, ?_⟩⟩
      · show 0 + l.length * 1 ≤ (ints l).length
        unfold ints
        simp
      · show ((ints l).drop 0).take (l.length * 1) = _
        rw [List.drop_zero, List.take_of_length_le (by unfold ints; simp)]
theorem out_add {σ0 σ σ' : St} {v : Value} {l : List Int} (h : Out σ0 σ v l) (e : Ext' σ σ') : Out σ0 σ' v l := by
  rcases h with h | ⟨p, c, rfl, h1, h2, h3, h4, h5⟩
  · exact .inl h
  · exact .inr ⟨p, c, rfl, (e.look h5).trans h1, (e.caps _ h3).trans h2, Nat.lt_of_lt_of_le h3 e.nextC, h4, Nat.lt_of_lt_of_le h5 e.next⟩
end
section
abbrev Tk := Int × Bool
def encT (t : Tk) : List Value := [.int .i64 t.1, .bool t.2]
theorem encT_len (t : Tk) : (encT t).length = 2 := rfl
def SlD (σ : St) (v : Value) (l : List Tk) : Prop := ∃ b n c, v = .slice b n c ∧ Sl cxH σ 2 b n c (l.flatMap encT) ∧ n = l.length
def All2 (σ : St) (ds : List Value) (L : List (List Tk)) : Prop := ∀ (i : Nat) (l : List Tk), L[i]? = some l → ∃ v, ds[i]? = some v ∧ SlD σ v l
def SlP (σ : St) (v : Value) (L : List (List Tk)) : Prop := ∃ s b n c ds, v = .agg #[.string s, .slice b n c] ∧ Sl cxH σ 1 b n c ds ∧ n = L.length ∧ All2 σ ds L
theorem slD_ext {σ σ' : St} {v : Value} {l : List Tk} (h : SlD σ v l) (e : Ext' σ σ') : SlD σ' v l := by
  obtain ⟨b, n, c, rfl, h, hn⟩ := h
  exact ⟨b, n, c, rfl, h.ext e, hn⟩
theorem all2_ext {σ σ' : St} {ds : List Value} {L : List (List Tk)} (h : All2 σ ds L) (e : Ext' σ σ') : All2 σ' ds L := fun i l hl => by
  obtain ⟨v, h1, h2⟩ := h i l hl
  exact ⟨v, h1, slD_ext h2 e⟩
theorem slP_ext {σ σ' : St} {v : Value} {L : List (List Tk)} (h : SlP σ v L) (e : Ext' σ σ') : SlP σ' v L := by
  obtain ⟨s, b, n, c, ds, rfl, h, hn, h2⟩ := h
  exact ⟨s, b, n, c, ds, rfl, h.ext e, hn, all2_ext h2 e⟩
def flown (l : List Tk) : List Int := l.filterMap fun t => if t.2 then none else some t.1
def flownL (L : List (List Tk)) : List Int := flown L.flatten
theorem flown_le (l : List Tk) : (flown l).length ≤ l.length := List.length_filterMap_le _ _
theorem flown_snoc {l : List Tk} {t : Tk} : flown (l ++ [t]) = flown l ++ (if t.2 then [] else [t.1]) := by
  unfold flown
  rw [List.filterMap_append]
  obtain ⟨x, y⟩ := t
  cases y <;> rfl
theorem take_snoc {α : Type} {l : List α} {i : Nat} {a : α} (h : l[i]? = some a) : l.take (i + 1) = l.take i ++ [a] := by
  rw [List.take_add_one, h]
  rfl
theorem flat_snoc {L : List (List Tk)} {i : Nat} {l : List Tk} (h : L[i]? = some l) : (L.take (i + 1)).flatten = (L.take i).flatten ++ l := by
  rw [take_snoc h, List.flatten_append]
  simp
theorem bx_29 {σ : St} {x y : Value} {K : Value → St → Prop} : Wbox σ 29 (.agg #[x, y]) K = K (.pointer (some ⟨σ.next, 0, none⟩)) (σ.add (.row [x, y] 29)) := Wbox_of
theorem fa_29_1 {b : Nat} {K : Value → Prop} : Wfa cxH 29 1 (.pointer (some ⟨b, 0, none⟩)) K = K (.pointer (some ⟨b, 1, none⟩)) := by
  have : opFieldAddr cxH 29 (.pointer (some ⟨b, 0, none⟩)) 1 = some (.pointer (some ⟨b, 1, none⟩)) := by unfold opFieldAddr; rw [ty_29]; rfl
  unfold Wfa
  rw [this, Wo_some]
theorem lo_27 {o : SObj} {off : Nat} {v : Value} {K : Value → Prop} (h : o.cells[off]? = some v) : Wo (loadO cxH 27 off o) K = K v := by
  have : loadO cxH 27 off o = some v := by unfold loadO; rw [ty_27]; exact h
  rw [this, Wo_some]
theorem lo_27_1 {x y : Value} {r : List Value} {e : TypeId} {K : Value → Prop} : Wo (loadO cxH 27 1 (.row (x :: y :: r) e)) K = K y := lo_27 rfl
theorem rOperated_ok {σ : St} {v : Value} {L : List (List Tk)} (h : SlP σ v L) (hL : L.length ≤ 1000) (hF : L.flatten.length ≤ 1000) : C cxH 11 [v] σ fun v σ' => Li σ' v (flownL L) ∧ Ext' σ σ' := by
  obtain ⟨s, b, n, c, ds, rfl, h, rfl, h2⟩ := h
  have h' := h.ext (Ext'.to_fresh σ)
  have h2' := all2_ext h2 (Ext'.to_fresh σ)
  refine C_in (N := 46) (rs := [.tmp 2]) fn_11 (by rfl) (by rfl) (by rfl) (by rfl) (by rfl) (by rfl) ?_
  simp (disch := first | exact sideD | fail) only [go_sem]
  have Eτ : Ext' σ.fresh (σ.fresh.add (.row [.string s, .slice b L.length c] 29)) := (Ext'.refl _).add _
  have kτ : Sym.look cxH (σ.fresh.add (.row [.string s, .slice b L.length c] 29)) σ.next = some (.row [.string s, .slice b L.length c] 29) := by simp (disch := first | exact sideD | fail) only [go_sem]
  have nτ : σ.next < (σ.fresh.add (.row [.string s, .slice b L.length c] 29)).next := Nat.lt_succ_self _
  generalize σ.fresh.add (.row [.string s, .slice b L.length c] 29) = τ at Eτ kτ nτ ⊢
  have h' := h'.ext Eτ
  have h2' := all2_ext h2' Eτ
  refine Wloop_inv (fun m g σ' => ∃ (i : Nat), m = L.length - i ∧ i ≤ L.length ∧ g 1 = .pointer (some ⟨σ.next, 0, none⟩) ∧ g 4 = .int .i64 (i : Int) ∧ Ext' τ σ' ∧ ∃ bo no co, g 3 = .slice bo no co ∧ Out τ σ' (.slice bo no co) (flown (L.take i).flatten)) L.length (by rfl)
    ⟨0, rfl, Nat.zero_le _, by simp (disch := first | exact sideD | fail) only [go_sem], by simp (disch := first | exact sideD | fail) only [go_sem]; rfl, Ext'.refl _, none, 0, 0, by simp (disch := first | exact sideD | fail) only [go_sem], .inl ⟨rfl, rfl⟩⟩ ?_
  rintro m g σ' ⟨i, rfl, hi, g1, g4, E, bo, no, co, g3, ho⟩
  have hc := (E.look (cx := cxH) nτ).trans kτ
  have d1 := h'.ext E
  have d2 := all2_ext h2' E
  by_cases hin : i = L.length
  · subst hin
    have e : ((L.length : Int) < (L.length : Int)) = False := eq_false (by omega)
    simp (disch := first | exact sideD | fail) only [go_sem, g1, g3, g4, fa_29_1, hc, lo_27_1, e]
    rw [List.take_of_length_le (Nat.le_refl _)] at ho
    exact ⟨li_back (out_li ho), back_ext (Eτ.trans E)⟩
  · have e : ((i : Int) < (L.length : Int)) = True := eq_true (by omega)
    obtain ⟨l, hl⟩ : ∃ l, L[i]? = some l := ⟨_, List.getElem?_eq_getElem (by omega)⟩
    obtain ⟨vd, hv, bd, nd, cd, rfl, hs, rfl⟩ := d2 i l hl
    have h5 := congrArg List.length (flat_snoc hl)
    have h6 : ((L.take (i + 1)).flatten).length ≤ L.flatten.length := by
      have := congrArg (fun z => (List.flatten z).length) (List.take_append_drop (i + 1) L)
      simp only [List.flatten_append, List.length_append] at this
      omega
    rw [List.length_append] at h5
    have hll : l.length ≤ 1000 := by omega
    simp (disch := first | exact sideD | fail) only [go_sem, g1, g3, g4, fa_29_1, hc, lo_27_1, e]
    refine Wloop_inv (fun m g σ' => ∃ (j : Nat), m = l.length - j ∧ j ≤ l.length ∧ g 1 = .pointer (some ⟨σ.next, 0, none⟩) ∧ g 4 = .int .i64 (i : Int) ∧ g 5 = .int .i64 (j : Int) ∧ Ext' τ σ' ∧ ∃ bo no co, g 3 = .slice bo no co ∧ Out τ σ' (.slice bo no co) (flown ((L.take i).flatten ++ l.take j))) l.length (by rfl)
      ⟨0, rfl, Nat.zero_le _, by simp (disch := first | exact sideD | fail) only [go_sem, g1], by simp (disch := first | exact sideD | fail) only [go_sem, g4], by simp (disch := first | exact sideD | fail) only [go_sem]; rfl, E, bo, no, co, by simp (disch := first | exact sideD | fail) only [go_sem, g3], by rw [List.take_zero, List.append_nil]; exact ho⟩ ?_
    clear g1 g3 g4 hc E ho d1 hs e
    rintro m g σ' ⟨j, rfl, hj, g1, g4, g5, E, bo, no, co, g3, ho⟩
    have hc := (E.look (cx := cxH) nτ).trans kτ
    have d1 := h'.ext E
    have d2 := all2_ext h2' E
    obtain ⟨vd', hv', bd', nd', cd', rfl, hs, hnd⟩ := d2 i l hl
    have hvv := hv.symm.trans hv'
    injection hvv with hvv
    injection hvv with e1 e2 e3
    subst e1
    subst e2
    subst e3
    have hil : i < L.length := by omega
    by_cases hjn : j = l.length
    · subst hjn
      have e : ((l.length : Int) < (l.length : Int)) = False := eq_false (by omega)
      simp (disch := first | exact sideD | fail) only [go_sem, g1, g3, g4, g5, fa_29_1, hc, lo_27_1, ia_27 d1 hil, le_54 d1 hv, e, wi_succ]
      refine ⟨L.length - (i + 1), by omega, i + 1, rfl, by omega, trivial, rfl, E, bo, no, co, rfl, ?_⟩
      rw [flat_snoc hl]
      rw [List.take_of_length_le (Nat.le_refl _)] at ho
      exact ho
    · have e : ((j : Int) < (l.length : Int)) = True := eq_true (by omega)
      obtain ⟨t, ht⟩ : ∃ t, l[j]? = some t := ⟨_, List.getElem?_eq_getElem (by omega)⟩
      have t0 : (l.flatMap encT)[j * 2]? = some (.int .i64 t.1) := getElem?_flatMap encT_len l j 0 (by omega) t ht
      have t1 : (l.flatMap encT)[j * 2 + 1]? = some (.bool t.2) := getElem?_flatMap encT_len l j 1 (by omega) t ht
      have hjl : j < l.length := by omega
      obtain ⟨x, hd⟩ := t
      have hlen : (flown ((L.take i).flatten ++ l.take j)).length < 100000 := by
        refine Nat.lt_of_le_of_lt (flown_le _) ?_
        rw [List.length_append]
        rw [List.length_take]
        omega
      cases hd with
      | true =>
        simp (disch := first | exact sideD | fail) only [go_sem, g1, g3, g4, g5, fa_29_1, hc, lo_27_1, ia_27 d1 hil, le_54 d1 hv, e, ia_54 hs hjl, fe_88_1, le_4 hs t1, Wun_not, wi_succ]
        refine ⟨l.length - (j + 1), by omega, j + 1, rfl, by omega, trivial, trivial, rfl, E, bo, no, co, rfl, ?_⟩
        rw [take_snoc ht, ← List.append_assoc, flown_snoc, if_pos rfl, List.append_nil]
        exact ho
      | false =>
        obtain ⟨b', n', c', σ2, hw, ho2, E2, hn2⟩ := out_append (x := x) ho E hlen
        simp (disch := first | exact sideD | fail) only [go_sem, g1, g3, g4, g5, fa_29_1, hc, lo_27_1, ia_27 d1 hil, le_54 d1 hv, e, ia_54 hs hjl, fe_88_1, fe_88_0, le_4 hs t1, le_3 hs t0, Wun_not, bs_42, hw, wi_succ]
        refine ⟨l.length - (j + 1), by omega, j + 1, rfl, by omega, trivial, trivial, rfl, E2, b', n', c', rfl, ?_⟩
        rw [take_snoc ht, ← List.append_assoc, flown_snoc, if_neg Bool.false_ne_true]
        exact ho2
end
section
theorem al_88 {σ : St} {K : Value → St → Prop} : Wal cxH σ 88 K = K (.pointer (some ⟨σ.next, 0, none⟩)) (σ.add (.row [.int .i64 0, .bool false] 88)) := Wal_of ty_88 rfl
theorem fa_88_0 {b : Nat} {K : Value → Prop} : Wfa cxH 88 0 (.pointer (some ⟨b, 0, none⟩)) K = K (.pointer (some ⟨b, 0, none⟩)) := by
  have : opFieldAddr cxH 88 (.pointer (some ⟨b, 0, none⟩)) 0 = some (.pointer (some ⟨b, 0, none⟩)) := by unfold opFieldAddr; rw [ty_88]; rfl
  unfold Wfa
  rw [this, Wo_some]
theorem fa_88_1 {b : Nat} {K : Value → Prop} : Wfa cxH 88 1 (.pointer (some ⟨b, 0, none⟩)) K = K (.pointer (some ⟨b, 1, none⟩)) := by
  have : opFieldAddr cxH 88 (.pointer (some ⟨b, 0, none⟩)) 1 = some (.pointer (some ⟨b, 1, none⟩)) := by unfold opFieldAddr; rw [ty_88]; rfl
  unfold Wfa
  rw [this, Wo_some]
theorem st_88 {σ : St} {p : Nat} {e : TypeId} {K : Value → St → Prop} {x y : Value} {a : Int} {d : Bool} : WstO cxH σ 88 p 0 (some (.row [x, y] e)) (.agg #[.int .i64 a, .bool d]) K = K undef (σ.set p (.row [.int .i64 a, .bool d] e)) :=
  WstO_of (by unfold storeO; rw [ty_88]; rfl)
theorem lo_3 {o : SObj} {off : Nat} {v : Value} {K : Value → Prop} (h : o.cells[off]? = some v) : Wo (loadO cxH 3 off o) K = K v := by
  have : loadO cxH 3 off o = some v := by unfold loadO; rw [ty_3]; exact h
  rw [this, Wo_some]
theorem lo_3_0 {x : Value} {r : List Value} {e : TypeId} {K : Value → Prop} : Wo (loadO cxH 3 0 (.row (x :: r) e)) K = K x := lo_3 rfl
theorem lo_3_1 {x y : Value} {r : List Value} {e : TypeId} {K : Value → Prop} : Wo (loadO cxH 3 1 (.row (x :: y :: r) e)) K = K y := lo_3 rfl
theorem lo_4_1 {x y : Value} {r : List Value} {e : TypeId} {K : Value → Prop} : Wo (loadO cxH 4 1 (.row (x :: y :: r) e)) K = K y := lo_4 rfl
theorem operated_ok {σ : St} {v : Value} {L : List (List Tk)} (h : SlP σ v L) (hL : L.length ≤ 1000) (hF : L.flatten.length ≤ 1000) : C cxH 10 [v] σ fun v σ' => Li σ' v (flownL L) ∧ Ext' σ σ' := by
  obtain ⟨s, b, n, c, ds, rfl, h, rfl, h2⟩ := h
  have h' := h.ext (Ext'.to_fresh σ)
  have h2' := all2_ext h2 (Ext'.to_fresh σ)
  refine C_in (N := 32) (rs := [.tmp 2]) fn_10 (by rfl) (by rfl) (by rfl) (by rfl) (by rfl) (by rfl) ?_
  simp (disch := first | exact sideD | fail) only [go_sem]
  have Eτ : Ext' σ.fresh (σ.fresh.add (.row [.string s, .slice b L.length c] 29)) := (Ext'.refl _).add _
  have kτ : Sym.look cxH (σ.fresh.add (.row [.string s, .slice b L.length c] 29)) σ.next = some (.row [.string s, .slice b L.length c] 29) := by simp (disch := first | exact sideD | fail) only [go_sem]
  have nτ : σ.next < (σ.fresh.add (.row [.string s, .slice b L.length c] 29)).next := Nat.lt_succ_self _
  generalize σ.fresh.add (.row [.string s, .slice b L.length c] 29) = τ at Eτ kτ nτ ⊢
  have h' := h'.ext Eτ
  have h2' := all2_ext h2' Eτ
  simp (disch := first | exact sideD | fail) only [go_sem, kτ, fa_29_1, lo_27_1]
  refine Wloop_inv (fun m g σ' => ∃ (i : Nat), m = L.length - i ∧ i ≤ L.length ∧ g 9 = .slice b L.length c ∧ g 10 = .int .i64 (L.length : Int) ∧ g 11 = .int .i64 (i : Int) ∧ Ext' τ σ' ∧ ∃ bo no co, g 3 = .slice bo no co ∧ Out τ σ' (.slice bo no co) (flown (L.take i).flatten)) L.length (by rfl)
    ⟨0, rfl, Nat.zero_le _, by simp (disch := first | exact sideD | fail) only [go_sem], by simp (disch := first | exact sideD | fail) only [go_sem], by simp (disch := first | exact sideD | fail) only [go_sem]; rfl, Ext'.refl _, none, 0, 0, by simp (disch := first | exact sideD | fail) only [go_sem], .inl ⟨rfl, rfl⟩⟩ ?_
  rintro m g σ' ⟨i, rfl, hi, g9, g10, g11, E, bo, no, co, g3, ho⟩
  have hc := (E.look (cx := cxH) nτ).trans kτ
  have d1 := h'.ext E
  have d2 := all2_ext h2' E
  by_cases hin : i = L.length
  · subst hin
    have e : ((L.length : Int) < (L.length : Int)) = False := eq_false (by omega)
    simp (disch := first | exact sideD | fail) only [go_sem, g3, g9, g10, g11, e]
    rw [List.take_of_length_le (Nat.le_refl _)] at ho
    exact ⟨li_back (out_li ho), back_ext (Eτ.trans E)⟩
  · have e : ((i : Int) < (L.length : Int)) = True := eq_true (by omega)
    obtain ⟨l, hl⟩ : ∃ l, L[i]? = some l := ⟨_, List.getElem?_eq_getElem (by omega)⟩
    obtain ⟨vd, hv, bd, nd, cd, rfl, hsτ, rfl⟩ := h2' i l hl
    have hs := hsτ.ext E
    have h5 := congrArg List.length (flat_snoc hl)
    have h6 : ((L.take (i + 1)).flatten).length ≤ L.flatten.length := by
      have := congrArg (fun z => (List.flatten z).length) (List.take_append_drop (i + 1) L)
      simp only [List.flatten_append, List.length_append] at this
      omega
    rw [List.length_append] at h5
    have hll : l.length ≤ 1000 := by omega
    have hil : i < L.length := by omega
    simp (disch := first | exact sideD | fail) only [go_sem, g3, g9, g10, g11, ia_27 d1 hil, le_54 d1 hv, e]
    refine Wloop_inv (fun m g σ' => ∃ (j : Nat), m = l.length - j ∧ j ≤ l.length ∧ g 9 = .slice b L.length c ∧ g 10 = .int .i64 (L.length : Int) ∧ g 11 = .int .i64 (i : Int) ∧ g 15 = .slice bd l.length cd ∧ g 16 = .int .i64 (l.length : Int) ∧ g 17 = .int .i64 (j : Int) ∧ Ext' τ σ' ∧ Sl cxH σ' 2 bd l.length cd (l.flatMap encT) ∧ ∃ bo no co, g 3 = .slice bo no co ∧ Out τ σ' (.slice bo no co) (flown ((L.take i).flatten ++ l.take j))) l.length (by rfl)
      ⟨0, rfl, Nat.zero_le _, by simp (disch := first | exact sideD | fail) only [go_sem, g9], by simp (disch := first | exact sideD | fail) only [go_sem, g10], by simp (disch := first | exact sideD | fail) only [go_sem, g11], by simp (disch := first | exact sideD | fail) only [go_sem], by simp (disch := first | exact sideD | fail) only [go_sem], by simp (disch := first | exact sideD | fail) only [go_sem]; rfl, E, hs, bo, no, co, by simp (disch := first | exact sideD | fail) only [go_sem, g3], by rw [List.take_zero, List.append_nil]; exact ho⟩ ?_
    clear g3 g9 g10 g11 hc E ho d1 hs e
    rintro m g σ' ⟨j, rfl, hj, g9, g10, g11, g15, g16, g17, E, hs, bo, no, co, g3, ho⟩
    by_cases hjn : j = l.length
    · subst hjn
      have e : ((l.length : Int) < (l.length : Int)) = False := eq_false (by omega)
      simp (disch := first | exact sideD | fail) only [go_sem, g3, g9, g10, g11, g15, g16, g17, e, wi_succ]
      refine ⟨L.length - (i + 1), by omega, i + 1, rfl, by omega, trivial, trivial, rfl, E, bo, no, co, rfl, ?_⟩
      rw [flat_snoc hl]
      rw [List.take_of_length_le (Nat.le_refl _)] at ho
      exact ho
    · have e : ((j : Int) < (l.length : Int)) = True := eq_true (by omega)
      obtain ⟨t, ht⟩ : ∃ t, l[j]? = some t := ⟨_, List.getElem?_eq_getElem (by omega)⟩
      have t0 : (l.flatMap encT)[j * 2]? = some (.int .i64 t.1) := getElem?_flatMap encT_len l j 0 (by omega) t ht
      have t1 : (l.flatMap encT)[j * 2 + 1]? = some (.bool t.2) := getElem?_flatMap encT_len l j 1 (by omega) t ht
      have hjl : j < l.length := by omega
      obtain ⟨x, hd⟩ := t
      have hlen : (flown ((L.take i).flatten ++ l.take j)).length < 100000 := by
        refine Nat.lt_of_le_of_lt (flown_le _) ?_
        rw [List.length_append]
        rw [List.length_take]
        omega
      have E3 : Ext' σ' ((σ'.add (.row [.int .i64 0, .bool false] 88)).set σ'.next (.row [.int .i64 x, .bool hd] 88)) := ((Ext'.refl _).add _).set _ (Nat.le_refl _)
      have k3 : Sym.look cxH ((σ'.add (.row [.int .i64 0, .bool false] 88)).set σ'.next (.row [.int .i64 x, .bool hd] 88)) σ'.next = some (.row [.int .i64 x, .bool hd] 88) := look_set rfl
      have hs3 := hs.ext E3
      have ho3 := out_add ho E3
      simp (disch := first | exact sideD | fail) only [go_sem, g3, g9, g10, g11, g15, g16, g17, e, ia_54 hs hjl, le_88 hs t0 t1, al_88, st_88, fa_88_1]
      generalize (σ'.add (.row [.int .i64 0, .bool false] 88)).set σ'.next (.row [.int .i64 x, .bool hd] 88) = σ3 at E3 k3 hs3 ho3 ⊢
      have E4 := E.trans E3
      cases hd with
      | true =>
        simp (disch := first | exact sideD | fail) only [go_sem, g3, g9, g10, g11, g15, g16, g17, k3, lo_4_1, Wun_not, wi_succ]
        refine ⟨l.length - (j + 1), by omega, j + 1, rfl, by omega, trivial, trivial, trivial, trivial, trivial, rfl, E4, hs3, bo, no, co, rfl, ?_⟩
        rw [take_snoc ht, ← List.append_assoc, flown_snoc, if_pos rfl, List.append_nil]
        exact ho3
      | false =>
        obtain ⟨b', n', c', σ2, hw, ho2, E2, hn2⟩ := out_append (x := x) ho3 E4 hlen
        have hs2 : Sl cxH σ2 2 bd l.length cd (l.flatMap encT) := hsτ.ext E2
        simp (disch := first | exact sideD | fail) only [go_sem, g3, g9, g10, g11, g15, g16, g17, k3, lo_4_1, lo_3_0, fa_88_0, Wun_not, bs_42, hw, wi_succ]
        refine ⟨l.length - (j + 1), by omega, j + 1, rfl, by omega, trivial, trivial, trivial, trivial, trivial, rfl, E2, hs2, b', n', c', rfl, ?_⟩
        rw [take_snoc ht, ← List.append_assoc, flown_snoc, if_neg Bool.false_ne_true]
        exact ho2
end
section
theorem sameInts_ok {σ : St} {v w : Value} {l : List Int} (h : Li σ v l) (h2 : Li σ w l) (hl : l.length ≤ 1000000) : C cxH 9 [v, w] σ fun v σ' => v = .bool true ∧ σ' = σ := by
  obtain ⟨b, n, c, rfl, h, rfl⟩ := h
  obtain ⟨b2, n2, c2, rfl, h2, rfl⟩ := h2
  have d1 := h.ext (Ext'.to_fresh σ)
  have d2 := h2.ext (Ext'.to_fresh σ)
  have e0 : ((l.length : Int) = (l.length : Int)) = True := eq_self _
  refine C_in (N := 26) (rs := [.tmp 4]) fn_9 (by rfl) (by rfl) (by rfl) (by rfl) (by rfl) (by rfl) ?_
  simp (disch := first | exact sideD | fail) only [go_sem, e0]
  refine Wloop_inv (fun m g σ' => ∃ (i : Nat), m = l.length - i ∧ i ≤ l.length ∧ g 0 = .slice b l.length c ∧ g 1 = .slice b2 l.length c2 ∧ g 5 = .int .i64 (i : Int) ∧ σ' = σ.fresh) l.length (by rfl)
    ⟨0, rfl, Nat.zero_le _, by simp (disch := first | exact sideD | fail) only [go_sem], by simp (disch := first | exact sideD | fail) only [go_sem], by simp (disch := first | exact sideD | fail) only [go_sem]; rfl, rfl⟩ ?_
  rintro m g _ ⟨i, rfl, hi, g0, g1, g5, rfl⟩
  by_cases hin : i = l.length
  · subst hin
    have e : ((l.length : Int) < (l.length : Int)) = False := eq_false (by omega)
    simp (disch := first | exact sideD | fail) only [go_sem, g0, g1, g5, e]
    exact ⟨trivial, back_plain (Ext'.refl _) rfl⟩
  · have e : ((i : Int) < (l.length : Int)) = True := eq_true (by omega)
    have hil : i < l.length := by omega
    obtain ⟨a, ha⟩ : ∃ a, l[i]? = some a := ⟨_, List.getElem?_eq_getElem hil⟩
    have hv := ints_get ha
    have e1 : (a = a) = True := eq_self _
    simp (disch := first | exact sideD | fail) only [go_sem, g0, g1, g5, e, e1, ia_42 d1 hil, ia_42 d2 hil, le_3 d1 hv, le_3 d2 hv, wi_succ]
    refine ⟨l.length - (i + 1), by omega, i + 1, rfl, by omega, trivial, trivial, rfl, trivial⟩
theorem has_ok {σ : St} {v : Value} {l : List Int} {x : Int} (h : Li σ v l) (hl : l.length ≤ 1000000) : C cxH 38 [v, .int .i64 x] σ fun v σ' => v = .bool (decide (x ∈ l)) ∧ σ' = σ := by
  obtain ⟨b, n, c, rfl, h, rfl⟩ := h
  have d1 := h.ext (Ext'.to_fresh σ)
  refine C_in (N := 18) (rs := [.tmp 4]) fn_38 (by rfl) (by rfl) (by rfl) (by rfl) (by rfl) (by rfl) ?_
  simp (disch := first | exact sideD | fail) only [go_sem]
  refine Wloop_inv (fun m g σ' => ∃ (i : Nat), m = l.length - i ∧ i ≤ l.length ∧ g 0 = .slice b l.length c ∧ g 1 = .int .i64 x ∧ g 5 = .int .i64 (i : Int) ∧ σ' = σ.fresh ∧ x ∉ l.take i) l.length (by rfl)
    ⟨0, rfl, Nat.zero_le _, by simp (disch := first | exact sideD | fail) only [go_sem], by simp (disch := first | exact sideD | fail) only [go_sem], by simp (disch := first | exact sideD | fail) only [go_sem]; rfl, rfl, by simp⟩ ?_
  rintro m g _ ⟨i, rfl, hi, g0, g1, g5, rfl, hno⟩
  by_cases hin : i = l.length
  · subst hin
    have e : ((l.length : Int) < (l.length : Int)) = False := eq_false (by omega)
    simp (disch := first | exact sideD | fail) only [go_sem, g0, g1, g5, e]
    rw [List.take_of_length_le (Nat.le_refl _)] at hno
    exact ⟨by rw [decide_eq_false hno], back_plain (Ext'.refl _) rfl⟩
  · have e : ((i : Int) < (l.length : Int)) = True := eq_true (by omega)
    have hil : i < l.length := by omega
    obtain ⟨a, ha⟩ : ∃ a, l[i]? = some a := ⟨_, List.getElem?_eq_getElem hil⟩
    have hv := ints_get ha
    by_cases hax : a = x
    · have e1 : (a = x) = True := eq_true hax
      simp (disch := first | exact sideD | fail) only [go_sem, g0, g1, g5, e, e1, ia_42 d1 hil, le_3 d1 hv]
      exact ⟨by rw [decide_eq_true (hax ▸ List.mem_of_getElem? ha)], back_plain (Ext'.refl _) rfl⟩
    · have e1 : (a = x) = False := eq_false hax
      simp (disch := first | exact sideD | fail) only [go_sem, g0, g1, g5, e, e1, ia_42 d1 hil, le_3 d1 hv, wi_succ]
      refine ⟨l.length - (i + 1), by omega, i + 1, rfl, by omega, trivial, trivial, rfl, trivial, ?_⟩
      rw [take_snoc ha, List.mem_append]
      rintro (h1 | h1)
      · exact hno h1
      · exact hax (List.mem_singleton.1 h1).symm
theorem index_ok {σ : St} {v : Value} {l : List Int} {x : Int} (h : Li σ v l) (hl : l.length ≤ 1000000) : C cxH 110 [v, .int .i64 x] σ fun v σ' => (∃ a, v = .int .i64 a ∧ (0 ≤ a ↔ x ∈ l)) ∧ σ' = σ := by
  obtain ⟨b, n, c, rfl, h, rfl⟩ := h
  have d1 := h.ext (Ext'.to_fresh σ)
  refine C_in (N := 19) (rs := [.tmp 4]) fn_110 (by rfl) (by rfl) (by rfl) (by rfl) (by rfl) (by rfl) ?_
  simp (disch := first | exact sideD | fail) only [go_sem]
  refine Wloop_inv (fun m g σ' => ∃ (i : Nat), m = l.length - i ∧ i ≤ l.length ∧ g 0 = .slice b l.length c ∧ g 1 = .int .i64 x ∧ g 7 = .int .i64 (l.length : Int) ∧ g 8 = .int .i64 (i : Int) ∧ σ' = σ.fresh ∧ x ∉ l.take i) l.length (by rfl)
    ⟨0, rfl, Nat.zero_le _, by simp (disch := first | exact sideD | fail) only [go_sem], by simp (disch := first | exact sideD | fail) only [go_sem], by simp (disch := first | exact sideD | fail) only [go_sem], by simp (disch := first | exact sideD | fail) only [go_sem]; rfl, rfl, by simp⟩ ?_
  rintro m g _ ⟨i, rfl, hi, g0, g1, g7, g8, rfl, hno⟩
  by_cases hin : i = l.length
  · subst hin
    have e : ((l.length : Int) < (l.length : Int)) = False := eq_false (by omega)
    simp (disch := first | exact sideD | fail) only [go_sem, g0, g1, g7, g8, e]
    rw [List.take_of_length_le (Nat.le_refl _)] at hno
    exact ⟨⟨_, rfl, by simp [hno]⟩, back_plain (Ext'.refl _) rfl⟩
  · have e : ((i : Int) < (l.length : Int)) = True := eq_true (by omega)
    have hil : i < l.length := by omega
    obtain ⟨a, ha⟩ : ∃ a, l[i]? = some a := ⟨_, List.getElem?_eq_getElem hil⟩
    have hv := ints_get ha
    by_cases hax : a = x
    · have e1 : (x = a) = True := eq_true hax.symm
      simp (disch := first | exact sideD | fail) only [go_sem, g0, g1, g7, g8, e, e1, ia_42 d1 hil, le_3 d1 hv]
      exact ⟨⟨_, rfl, by simp [hax ▸ List.mem_of_getElem? ha]⟩, back_plain (Ext'.refl _) rfl⟩
    · have e1 : (x = a) = False := eq_false (Ne.symm hax)
      simp (disch := first | exact sideD | fail) only [go_sem, g0, g1, g7, g8, e, e1, ia_42 d1 hil, le_3 d1 hv, wi_succ]
      refine ⟨l.length - (i + 1), by omega, i + 1, rfl, by omega, trivial, trivial, trivial, rfl, trivial, ?_⟩
      rw [take_snoc ha, List.mem_append]
      rintro (h1 | h1)
      · exact hno h1
      · exact hax (List.mem_singleton.1 h1).symm
theorem contains_ok {σ : St} {v : Value} {l : List Int} {x : Int} (h : Li σ v l) (hl : l.length ≤ 1000000) : C cxH 70 [v, .int .i64 x] σ fun v σ' => v = .bool (decide (x ∈ l)) ∧ σ' = σ := by
  have h' := li_ext h (Ext'.to_fresh σ)
  obtain ⟨b, n, c, rfl, -⟩ := h
  refine C_in (N := 9) (rs := [.tmp 4]) fn_70 (by rfl) (by rfl) (by rfl) (by rfl) (by rfl) (by rfl) ?_
  simp (disch := first | exact sideD | fail) only [go_sem]
  apply usep
  case h => exact index_ok h' hl
  rintro _ ⟨a, rfl, ha⟩
  simp (disch := first | exact sideD | fail) only [go_sem]
  exact ⟨by rw [decide_eq_decide.2 ha], back_plain (Ext'.refl _) rfl⟩
theorem count_ok {σ : St} {v : Value} {l : List Int} {x : Int} (h : Li σ v l) (hl : l.length ≤ 1000000) : C cxH 32 [v, .int .i64 x] σ fun v σ' => v = .int .i64 (l.count x : Nat) ∧ σ' = σ := by
  obtain ⟨b, n, c, rfl, h, rfl⟩ := h
  have d1 := h.ext (Ext'.to_fresh σ)
  refine C_in (N := 22) (rs := [.tmp 4]) fn_32 (by rfl) (by rfl) (by rfl) (by rfl) (by rfl) (by rfl) ?_
  simp (disch := first | exact sideD | fail) only [go_sem]
  refine Wloop_inv (fun m g σ' => ∃ (i : Nat), m = l.length - i ∧ i ≤ l.length ∧ g 0 = .slice b l.length c ∧ g 1 = .int .i64 x ∧ g 5 = .int .i64 ((l.take i).count x : Nat) ∧ g 6 = .int .i64 (i : Int) ∧ σ' = σ.fresh) l.length (by rfl)
    ⟨0, rfl, Nat.zero_le _, by simp (disch := first | exact sideD | fail) only [go_sem], by simp (disch := first | exact sideD | fail) only [go_sem], by simp (disch := first | exact sideD | fail) only [go_sem]; rfl, by simp (disch := first | exact sideD | fail) only [go_sem]; rfl, rfl⟩ ?_
  rintro m g _ ⟨i, rfl, hi, g0, g1, g5, g6, rfl⟩
  by_cases hin : i = l.length
  · subst hin
    have e : ((l.length : Int) < (l.length : Int)) = False := eq_false (by omega)
    rw [List.take_of_length_le (Nat.le_refl _)] at g5
    simp (disch := first | exact sideD | fail) only [go_sem, g0, g1, g5, g6, e]
    exact ⟨trivial, back_plain (Ext'.refl _) rfl⟩
  · have e : ((i : Int) < (l.length : Int)) = True := eq_true (by omega)
    have hil : i < l.length := by omega
    obtain ⟨a, ha⟩ : ∃ a, l[i]? = some a := ⟨_, List.getElem?_eq_getElem hil⟩
    have hv := ints_get ha
    have hcl : (l.take i).count x ≤ 1000000 := Nat.le_trans List.count_le_length (by rw [List.length_take]; omega)
    by_cases hax : a = x
    · have e1 : (a = x) = True := eq_true hax
      simp (disch := first | exact sideD | fail) only [go_sem, g0, g1, g5, g6, e, e1, ia_42 d1 hil, le_3 d1 hv, wi_succ]
      refine ⟨l.length - (i + 1), by omega, i + 1, rfl, by omega, trivial, trivial, ?_, rfl, trivial⟩
      rw [take_snoc ha, List.count_append, List.count_singleton, if_pos (by simp [hax])]
    · have e1 : (a = x) = False := eq_false hax
      simp (disch := first | exact sideD | fail) only [go_sem, g0, g1, g5, g6, e, e1, ia_42 d1 hil, le_3 d1 hv, wi_succ]
      refine ⟨l.length - (i + 1), by omega, i + 1, rfl, by omega, trivial, trivial, ?_, rfl, trivial⟩
      rw [take_snoc ha, List.count_append, List.count_singleton, if_neg (by simp [hax])]
      rfl
end
section
def fol (l : List Int) (x y : Int) : Prop := ∃ k : Nat, l[k]? = some x ∧ l[k + 1]? = some y
def folB (l : List Int) (x y : Int) : Bool := @decide (fol l x y) (Classical.propDecidable _)
theorem folB_true {l : List Int} {x y : Int} (h : fol l x y) : folB l x y = true := @decide_eq_true _ (Classical.propDecidable _) h
theorem folB_false {l : List Int} {x y : Int} (h : ¬ fol l x y) : folB l x y = false := @decide_eq_false _ (Classical.propDecidable _) h
theorem un_26 : cxH.known.get 26 = none := by kernel_rfl
theorem fn_26 : cxH.fn.get 26 = some Tryz.f26 := by kernel_rfl
theorem un_30 : cxH.known.get 30 = none := by kernel_rfl
theorem fn_30 : cxH.fn.get 30 = some Tryz.f30 := by kernel_rfl
theorem un_31 : cxH.known.get 31 = none := by kernel_rfl
theorem fn_31 : cxH.fn.get 31 = some Tryz.f31 := by kernel_rfl
theorem un_65 : cxH.known.get 65 = none := by kernel_rfl
theorem fn_65 : cxH.fn.get 65 = some Tryz.f65 := by kernel_rfl
theorem un_66 : cxH.known.get 66 = none := by kernel_rfl
theorem fn_66 : cxH.fn.get 66 = some Tryz.f66 := by kernel_rfl
theorem call_31 {σ : St} {l : List Value} {K : Value → St → Prop} : Wfn cxH σ (.func (.func 31) #[] #[]) l K = C cxH 31 l σ K := Wfn_plain fn_31 rfl un_31
theorem call_65 {σ : St} {l : List Value} {K : Value → St → Prop} : Wfn cxH σ (.func (.func 65) #[] #[]) l K = C cxH 65 l σ K := Wfn_plain fn_65 rfl un_65
theorem call_66 {σ : St} {l : List Value} {K : Value → St → Prop} : Wfn cxH σ (.func (.func 66) #[] #[]) l K = C cxH 66 l σ K := Wfn_plain fn_66 rfl un_66
attribute [go_sem ↓] call_31 call_65 call_66
theorem follows33_ok {σ : St} {v : Value} {l : List Int} {x y : Int} (h : Li σ v l) (hl : l.length ≤ 1000000) : C cxH 33 [v, .int .i64 x, .int .i64 y] σ fun v σ' => v = .bool (folB l x y) ∧ σ' = σ := by
  obtain ⟨b, n, c, rfl, h, rfl⟩ := h
  have d1 := h.ext (Ext'.to_fresh σ)
  refine C_in (N := 29) (rs := [.tmp 6]) fn_33 (by rfl) (by rfl) (by rfl) (by rfl) (by rfl) (by rfl) ?_
  simp (disch := first | exact sideD | fail) only [go_sem]
  refine Wloop_inv (fun m g σ' => ∃ (i : Nat), m = l.length - i ∧ i ≤ l.length ∧ g 0 = .slice b l.length c ∧ g 1 = .int .i64 x ∧ g 2 = .int .i64 y ∧ g 7 = .int .i64 ((i + 1 : Nat) : Int) ∧ σ' = σ.fresh ∧ ∀ k, k < i → ¬ (l[k]? = some x ∧ l[k + 1]? = some y)) l.length (by rfl)
    ⟨0, rfl, Nat.zero_le _, by simp (disch := first | exact sideD | fail) only [go_sem], by simp (disch := first | exact sideD | fail) only [go_sem], by simp (disch := first | exact sideD | fail) only [go_sem], by simp (disch := first | exact sideD | fail) only [go_sem]; rfl, rfl, fun k hk => absurd hk (Nat.not_lt_zero _)⟩ ?_
  rintro m g _ ⟨i, rfl, hi, g0, g1, g2, g7, rfl, hno⟩
  by_cases hin : l.length ≤ i + 1
  · have e : (((i + 1 : Nat) : Int) < (l.length : Int)) = False := eq_false (by omega)
    simp (disch := first | exact sideD | fail) only [go_sem, g0, g1, g2, g7, e]
    refine ⟨?_, back_plain (Ext'.refl _) rfl⟩
    rw [folB_false]
    rintro ⟨k, h1, h2⟩
    have := (List.getElem?_eq_some_iff.1 h2).1
    exact hno k (by omega) ⟨h1, h2⟩
  · have e : (((i + 1 : Nat) : Int) < (l.length : Int)) = True := eq_true (by omega)
    have w1 : IntKind.i64.wrap (((i + 1 : Nat) : Int) - 1) = (i : Int) := wr64n (by omega) (by omega)
    have hil : i < l.length := by omega
    have hil2 : i + 1 < l.length := by omega
    obtain ⟨a, ha⟩ : ∃ a, l[i]? = some a := ⟨_, List.getElem?_eq_getElem hil⟩
    obtain ⟨a2, ha2⟩ : ∃ a, l[i + 1]? = some a := ⟨_, List.getElem?_eq_getElem hil2⟩
    have hv := ints_get ha
    have hv2 := ints_get ha2
    have next : ¬ (a = x ∧ a2 = y) → ∀ k, k < i + 1 → ¬ (l[k]? = some x ∧ l[k + 1]? = some y) := fun hn k hk h3 => by
      by_cases hki : k < i
      · exact hno k hki h3
      · have : k = i := by omega
        subst this
        rw [ha, ha2] at h3
        exact hn ⟨Option.some.inj h3.1, Option.some.inj h3.2⟩
    by_cases hax : a = x
    · have e1 : (a = x) = True := eq_true hax
      by_cases hay : a2 = y
      · have e2 : (a2 = y) = True := eq_true hay
        simp (disch := first | exact sideD | fail) only [go_sem, g0, g1, g2, g7, e, e1, e2, w1, ia_42 d1 hil, ia_42 d1 hil2, le_3 d1 hv, le_3 d1 hv2]
        exact ⟨by rw [folB_true ⟨i, hax ▸ ha, hay ▸ ha2⟩], back_plain (Ext'.refl _) rfl⟩
      · have e2 : (a2 = y) = False := eq_false hay
        simp (disch := first | exact sideD | fail) only [go_sem, g0, g1, g2, g7, e, e1, e2, w1, ia_42 d1 hil, ia_42 d1 hil2, le_3 d1 hv, le_3 d1 hv2, wi_succ]
        exact ⟨l.length - (i + 1), by omega, i + 1, rfl, by omega, trivial, trivial, trivial, rfl, trivial, next fun h => hay h.2⟩
    · have e1 : (a = x) = False := eq_false hax
      simp (disch := first | exact sideD | fail) only [go_sem, g0, g1, g2, g7, e, e1, w1, ia_42 d1 hil, le_3 d1 hv, wi_succ]
      exact ⟨l.length - (i + 1), by omega, i + 1, rfl, by omega, trivial, trivial, trivial, rfl, trivial, next fun h => hax h.1⟩
theorem follows65_ok {σ : St} {v : Value} {l : List Int} {x y : Int} (h : Li σ v l) (hl : l.length ≤ 1000000) : C cxH 65 [v, .int .i64 x, .int .i64 y] σ fun v σ' => v = .bool (folB l x y) ∧ σ' = σ := by
  obtain ⟨b, n, c, rfl, h, rfl⟩ := h
  have d1 := h.ext (Ext'.to_fresh σ)
  refine C_in (N := 29) (rs := [.tmp 6]) fn_65 (by rfl) (by rfl) (by rfl) (by rfl) (by rfl) (by rfl) ?_
  simp (disch := first | exact sideD | fail) only [go_sem]
  refine Wloop_inv (fun m g σ' => ∃ (i : Nat), m = l.length - i ∧ i ≤ l.length ∧ g 0 = .slice b l.length c ∧ g 1 = .int .i64 x ∧ g 2 = .int .i64 y ∧ g 7 = .int .i64 ((i + 1 : Nat) : Int) ∧ σ' = σ.fresh ∧ ∀ k, k < i → ¬ (l[k]? = some x ∧ l[k + 1]? = some y)) l.length (by rfl)
    ⟨0, rfl, Nat.zero_le _, by simp (disch := first | exact sideD | fail) only [go_sem], by simp (disch := first | exact sideD | fail) only [go_sem], by simp (disch := first | exact sideD | fail) only [go_sem], by simp (disch := first | exact sideD | fail) only [go_sem]; rfl, rfl, fun k hk => absurd hk (Nat.not_lt_zero _)⟩ ?_
  rintro m g _ ⟨i, rfl, hi, g0, g1, g2, g7, rfl, hno⟩
  by_cases hin : l.length ≤ i + 1
  · have e : (((i + 1 : Nat) : Int) < (l.length : Int)) = False := eq_false (by omega)
    simp (disch := first | exact sideD | fail) only [go_sem, g0, g1, g2, g7, e]
    refine ⟨?_, back_plain (Ext'.refl _) rfl⟩
    rw [folB_false]
    rintro ⟨k, h1, h2⟩
    have := (List.getElem?_eq_some_iff.1 h2).1
    exact hno k (by omega) ⟨h1, h2⟩
  · have e : (((i + 1 : Nat) : Int) < (l.length : Int)) = True := eq_true (by omega)
    have w1 : IntKind.i64.wrap (((i + 1 : Nat) : Int) - 1) = (i : Int) := wr64n (by omega) (by omega)
    have hil : i < l.length := by omega
    have hil2 : i + 1 < l.length := by omega
    obtain ⟨a, ha⟩ : ∃ a, l[i]? = some a := ⟨_, List.getElem?_eq_getElem hil⟩
    obtain ⟨a2, ha2⟩ : ∃ a, l[i + 1]? = some a := ⟨_, List.getElem?_eq_getElem hil2⟩
    have hv := ints_get ha
    have hv2 := ints_get ha2
    have next : ¬ (a = x ∧ a2 = y) → ∀ k, k < i + 1 → ¬ (l[k]? = some x ∧ l[k + 1]? = some y) := fun hn k hk h3 => by
      by_cases hki : k < i
      · exact hno k hki h3
      · have : k = i := by omega
        subst this
        rw [ha, ha2] at h3
        exact hn ⟨Option.some.inj h3.1, Option.some.inj h3.2⟩
    by_cases hax : a = x
    · have e1 : (a = x) = True := eq_true hax
      by_cases hay : a2 = y
      · have e2 : (a2 = y) = True := eq_true hay
        simp (disch := first | exact sideD | fail) only [go_sem, g0, g1, g2, g7, e, e1, e2, w1, ia_42 d1 hil, ia_42 d1 hil2, le_3 d1 hv, le_3 d1 hv2]
        exact ⟨by rw [folB_true ⟨i, hax ▸ ha, hay ▸ ha2⟩], back_plain (Ext'.refl _) rfl⟩
      · have e2 : (a2 = y) = False := eq_false hay
        simp (disch := first | exact sideD | fail) only [go_sem, g0, g1, g2, g7, e, e1, e2, w1, ia_42 d1 hil, ia_42 d1 hil2, le_3 d1 hv, le_3 d1 hv2, wi_succ]
        exact ⟨l.length - (i + 1), by omega, i + 1, rfl, by omega, trivial, trivial, trivial, rfl, trivial, next fun h => hay h.2⟩
    · have e1 : (a = x) = False := eq_false hax
      simp (disch := first | exact sideD | fail) only [go_sem, g0, g1, g2, g7, e, e1, w1, ia_42 d1 hil, le_3 d1 hv, wi_succ]
      exact ⟨l.length - (i + 1), by omega, i + 1, rfl, by omega, trivial, trivial, trivial, rfl, trivial, next fun h => hax h.1⟩
theorem occurrences_ok {σ : St} {v : Value} {l : List Int} {x : Int} (h : Li σ v l) (hl : l.length ≤ 1000000) : C cxH 66 [v, .int .i64 x] σ fun v σ' => v = .int .i64 (l.count x : Nat) ∧ σ' = σ := by
  obtain ⟨b, n, c, rfl, h, rfl⟩ := h
  have d1 := h.ext (Ext'.to_fresh σ)
  refine C_in (N := 21) (rs := [.tmp 4]) fn_66 (by rfl) (by rfl) (by rfl) (by rfl) (by rfl) (by rfl) ?_
  simp (disch := first | exact sideD | fail) only [go_sem]
  refine Wloop_inv (fun m g σ' => ∃ (i : Nat), m = l.length - i ∧ i ≤ l.length ∧ g 8 = .slice b l.length c ∧ g 9 = .int .i64 (l.length : Int) ∧ g 1 = .int .i64 x ∧ g 5 = .int .i64 ((l.take i).count x : Nat) ∧ g 10 = .int .i64 (i : Int) ∧ σ' = σ.fresh) l.length (by rfl)
    ⟨0, rfl, Nat.zero_le _, by simp (disch := first | exact sideD | fail) only [go_sem], by simp (disch := first | exact sideD | fail) only [go_sem], by simp (disch := first | exact sideD | fail) only [go_sem], by simp (disch := first | exact sideD | fail) only [go_sem]; rfl, by simp (disch := first | exact sideD | fail) only [go_sem]; rfl, rfl⟩ ?_
  rintro m g _ ⟨i, rfl, hi, g8, g9, g1, g5, g10, rfl⟩
  by_cases hin : i = l.length
  · subst hin
    have e : ((l.length : Int) < (l.length : Int)) = False := eq_false (by omega)
    rw [List.take_of_length_le (Nat.le_refl _)] at g5
    simp (disch := first | exact sideD | fail) only [go_sem, g8, g9, g1, g5, g10, e]
    exact ⟨trivial, back_plain (Ext'.refl _) rfl⟩
  · have e : ((i : Int) < (l.length : Int)) = True := eq_true (by omega)
    have hil : i < l.length := by omega
    obtain ⟨a, ha⟩ : ∃ a, l[i]? = some a := ⟨_, List.getElem?_eq_getElem hil⟩
    have hv := ints_get ha
    have hcl : (l.take i).count x ≤ 1000000 := Nat.le_trans List.count_le_length (by rw [List.length_take]; omega)
    by_cases hax : a = x
    · have e1 : (a = x) = True := eq_true hax
      simp (disch := first | exact sideD | fail) only [go_sem, g8, g9, g1, g5, g10, e, e1, ia_42 d1 hil, le_3 d1 hv, wi_succ]
      refine ⟨l.length - (i + 1), by omega, i + 1, rfl, by omega, trivial, trivial, trivial, ?_, rfl, trivial⟩
      rw [take_snoc ha, List.count_append, List.count_singleton, if_pos (by simp [hax])]
    · have e1 : (a = x) = False := eq_false hax
      simp (disch := first | exact sideD | fail) only [go_sem, g8, g9, g1, g5, g10, e, e1, ia_42 d1 hil, le_3 d1 hv, wi_succ]
      refine ⟨l.length - (i + 1), by omega, i + 1, rfl, by omega, trivial, trivial, trivial, ?_, rfl, trivial⟩
      rw [take_snoc ha, List.count_append, List.count_singleton, if_neg (by simp [hax])]
      rfl
def Cu (σ : St) (v : Value) (R : List Int) (d : Int) : Prop := ∃ b n c, v = .agg #[.slice b n c, .int .i64 d] ∧ Sl cxH σ 1 b n c (ints R) ∧ n = R.length
theorem cu_ext {σ σ' : St} {v : Value} {R : List Int} {d : Int} (h : Cu σ v R d) (e : Ext' σ σ') : Cu σ' v R d := by
  obtain ⟨b, n, c, rfl, h, hn⟩ := h
  exact ⟨b, n, c, rfl, h.ext e, hn⟩
def hits (R l : List Int) : Nat := l.countP fun x => decide (x ∈ R)
def cf (l R : List Int) (d : Int) : Nat := hits R l / d.toNat
theorem hits_snoc {R l : List Int} {x : Int} : hits R (l ++ [x]) = hits R l + (if x ∈ R then 1 else 0) := by
  unfold hits
  rw [List.countP_append]
  by_cases h : x ∈ R <;> simp [h]
theorem hits_le {R l : List Int} : hits R l ≤ l.length := List.countP_le_length
theorem quo_cf {t : TypeId} {ox oy : Operand} {K : Value → Prop} {m : Nat} {d : Int} (hd : 2 ≤ d) (hm : m ≤ 1000000) : Wbin cxH .quo t ox oy (.int .i64 (m : Int)) (.int .i64 d) K = K (.int .i64 ((m / d.toNat : Nat) : Int)) := by
  obtain ⟨k, rfl⟩ : ∃ k : Nat, d = (k : Int) := ⟨d.toNat, by omega⟩
  rw [Wbin_quo (by omega), ← Int.ofNat_tdiv, wi_nat (Nat.lt_of_le_of_lt (Nat.div_le_self _ _) (by omega)), Int.toNat_natCast]
theorem fa_50_0 {b : Nat} {K : Value → Prop} : Wfa cxH 50 0 (.pointer (some ⟨b, 0, none⟩)) K = K (.pointer (some ⟨b, 0, none⟩)) := by
  have : opFieldAddr cxH 50 (.pointer (some ⟨b, 0, none⟩)) 0 = some (.pointer (some ⟨b, 0, none⟩)) := by unfold opFieldAddr; rw [ty_50]; rfl
  unfold Wfa
  rw [this, Wo_some]
theorem fa_50_1 {b : Nat} {K : Value → Prop} : Wfa cxH 50 1 (.pointer (some ⟨b, 0, none⟩)) K = K (.pointer (some ⟨b, 1, none⟩)) := by
  have : opFieldAddr cxH 50 (.pointer (some ⟨b, 0, none⟩)) 1 = some (.pointer (some ⟨b, 1, none⟩)) := by unfold opFieldAddr; rw [ty_50]; rfl
  unfold Wfa
  rw [this, Wo_some]
theorem lo_42 {o : SObj} {off : Nat} {v : Value} {K : Value → Prop} (h : o.cells[off]? = some v) : Wo (loadO cxH 42 off o) K = K v := by
  have : loadO cxH 42 off o = some v := by unfold loadO; rw [ty_42]; exact h
  rw [this, Wo_some]
theorem lo_42_0 {x : Value} {r : List Value} {e : TypeId} {K : Value → Prop} : Wo (loadO cxH 42 0 (.row (x :: r) e)) K = K x := lo_42 rfl
theorem lo_50 {x y : Value} {e : TypeId} {K : Value → Prop} : Wo (loadO cxH 50 0 (.row [x, y] e)) K = K (.agg #[x, y]) := by
  have : loadO cxH 50 0 (.row [x, y] e) = some (.agg #[x, y]) := by unfold loadO; rw [ty_50]; rfl
  rw [this, Wo_some]
theorem lo_29 {x y : Value} {e : TypeId} {K : Value → Prop} : Wo (loadO cxH 29 0 (.row [x, y] e)) K = K (.agg #[x, y]) := by
  have : loadO cxH 29 0 (.row [x, y] e) = some (.agg #[x, y]) := by unfold loadO; rw [ty_29]; rfl
  rw [this, Wo_some]
theorem coefficient_ok {σ : St} {v w : Value} {l R : List Int} {d : Int} (h : Cu σ v R d) (h2 : Li σ w l) (hl : l.length ≤ 1000000) (hR : R.length ≤ 1000000) (hd : 2 ≤ d) : C cxH 37 [v, w] σ fun v σ' => v = .int .i64 (cf l R d : Nat) ∧ σ' = σ := by
  obtain ⟨b, n, c, rfl, h, rfl⟩ := h
  obtain ⟨b2, n2, c2, rfl, h2, rfl⟩ := h2
  have e0 : Ext' σ.fresh (σ.fresh.add (.row [.slice b R.length c, .int .i64 d] 50)) := (Ext'.refl _).add _
  have d1 := (h.ext (Ext'.to_fresh σ)).ext e0
  have d2 := (h2.ext (Ext'.to_fresh σ)).ext e0
  refine C_in (N := 25) (rs := [.tmp 4]) fn_37 (by rfl) (by rfl) (by rfl) (by rfl) (by rfl) (by rfl) ?_
  simp (disch := first | exact sideD | fail) only [go_sem]
  refine Wloop_inv (fun m g σ' => ∃ (i : Nat), m = l.length - i ∧ i ≤ l.length ∧ g 8 = .slice b2 l.length c2 ∧ g 9 = .int .i64 (l.length : Int) ∧ g 2 = .pointer (some ⟨σ.next, 0, none⟩) ∧ g 5 = .int .i64 (hits R (l.take i) : Nat) ∧ g 10 = .int .i64 (i : Int) ∧ σ' = σ.fresh.add (.row [.slice b R.length c, .int .i64 d] 50)) l.length (by rfl)
    ⟨0, rfl, Nat.zero_le _, by simp (disch := first | exact sideD | fail) only [go_sem], by simp (disch := first | exact sideD | fail) only [go_sem], by simp (disch := first | exact sideD | fail) only [go_sem], by simp (disch := first | exact sideD | fail) only [go_sem]; rfl, by simp (disch := first | exact sideD | fail) only [go_sem]; rfl, rfl⟩ ?_
  rintro m g _ ⟨i, rfl, hi, g8, g9, g2, g5, g10, rfl⟩
  by_cases hin : i = l.length
  · subst hin
    have e : ((l.length : Int) < (l.length : Int)) = False := eq_false (by omega)
    rw [List.take_of_length_le (Nat.le_refl _)] at g5
    have hh : hits R l ≤ 1000000 := Nat.le_trans hits_le hl
    simp (disch := first | exact sideD | fail) only [go_sem, g8, g9, g2, g5, g10, e, fa_50_1, lo_3_1, quo_cf]
    exact ⟨rfl, back_plain e0 rfl⟩
  · have e : ((i : Int) < (l.length : Int)) = True := eq_true (by omega)
    have hil : i < l.length := by omega
    obtain ⟨a, ha⟩ : ∃ a, l[i]? = some a := ⟨_, List.getElem?_eq_getElem hil⟩
    have hv := ints_get ha
    have hcl : hits R (l.take i) ≤ 1000000 := Nat.le_trans hits_le (by rw [List.length_take]; omega)
    have hLi : Li (σ.fresh.add (.row [.slice b R.length c, .int .i64 d] 50)) (.slice b R.length c) R := ⟨_, _, _, rfl, d1, rfl⟩
    simp (disch := first | exact sideD | fail) only [go_sem, g8, g9, g2, g5, g10, e, ia_42 d2 hil, le_3 d2 hv, fa_50_0, lo_42_0]
    apply usep
    case h => exact contains_ok hLi hR
    rintro _ rfl
    by_cases hax : a ∈ R
    · have e1 : (a ∈ R) = True := eq_true hax
      simp (disch := first | exact sideD | fail) only [go_sem, g8, g9, g2, g5, g10, e1, wi_succ]
      refine ⟨l.length - (i + 1), by omega, i + 1, rfl, by omega, trivial, trivial, trivial, ?_, rfl, trivial⟩
      rw [take_snoc ha, hits_snoc, if_pos hax]
    · have e1 : (a ∈ R) = False := eq_false hax
      simp (disch := first | exact sideD | fail) only [go_sem, g8, g9, g2, g5, g10, e1, wi_succ]
      refine ⟨l.length - (i + 1), by omega, i + 1, rfl, by omega, trivial, trivial, trivial, ?_, rfl, trivial⟩
      rw [take_snoc ha, hits_snoc, if_neg hax]
      rfl
end
end
end Go.Proofs.YtfdflggfffajaaaGreatDoor
