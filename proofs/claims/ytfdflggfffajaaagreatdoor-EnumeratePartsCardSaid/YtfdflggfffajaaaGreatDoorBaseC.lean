/- Regions, known calls, and the soundness of the whole executor. -/
import Derived.Test.YtfdflggfffajaaaGreatDoorBaseB
set_option linter.unusedVariables false
set_option linter.unusedSimpArgs false
set_option linter.unusedSectionVars false
namespace Go.Sym
open Go
noncomputable section
set_option maxRecDepth 20000
theorem meet_iff {x y : List Nat} : meet x y = true ↔ ∃ i, i ∈ x ∧ i ∈ y := by
  unfold meet
  simp only [List.any_eq_true]
  constructor
  · rintro ⟨i, hi, j, hj, h⟩
    have := Nat.eq_of_beq_eq_true h
    subst this
    exact ⟨i, hi, hj⟩
  · rintro ⟨i, hi, hj⟩
    exact ⟨i, hi, i, hj, by simp⟩
def FP.has (fp : FP) (i : Nat) : Prop :=
  match fp with
  | .part rs ws _ => i ∈ rs ∨ i ∈ ws
  | .all _ => True
def FP.hits (fp : FP) (i : Nat) : Prop :=
  match fp with
  | .part _ ws _ => i ∈ ws
  | .all x => x = true
theorem conflict_of {f g : FP} {i : Nat} (hf : f.has i) (hg : g.hits i) : f.conflict g = true ∧ g.conflict f = true := by
  cases f with
  | part rs ws m =>
    cases g with
    | part rs' ws' m' =>
      simp only [FP.has] at hf
      simp only [FP.hits] at hg
      rcases hf with hf | hf
      · have h1 : meet rs ws' = true := meet_iff.2 ⟨i, hf, hg⟩
        have h2 : meet ws' rs = true := meet_iff.2 ⟨i, hg, hf⟩
        simp [FP.conflict, h1, h2]
      · have h1 : meet ws ws' = true := meet_iff.2 ⟨i, hf, hg⟩
        have h2 : meet ws' ws = true := meet_iff.2 ⟨i, hg, hf⟩
        simp [FP.conflict, h1, h2]
    | all x =>
      simp only [FP.has] at hf
      simp only [FP.hits] at hg
      subst hg
      cases rs with
      | nil =>
        cases ws with
        | nil => simp at hf
        | cons a l => simp [FP.conflict]
      | cons a l => simp [FP.conflict]
  | all x =>
    cases g with
    | part rs' ws' m' =>
      simp only [FP.hits] at hg
      cases ws' with
      | nil => cases hg
      | cons a l => simp [FP.conflict]
    | all y =>
      simp only [FP.hits] at hg
      subst hg
      simp [FP.conflict]
theorem conflict_makes {f g : FP} (hf : f = .all true) (hg : g.makes = true) : f.conflict g = true ∧ g.conflict f = true := by
  subst hf
  cases g with
  | part rs ws m =>
    simp only [FP.makes] at hg
    subst hg
    simp [FP.conflict]
  | all y => simp [FP.conflict]
theorem touch_iff {S : Nat → St} {F : Nat → FP} {k i : Nat} : touch S F k i = true ↔ ((S k).next ≤ i ∧ i < (S (k + 1)).next) ∨ ((F k).hits i ∧ (F k = .all true → i < (S k).next)) := by
  unfold touch FP.hits
  simp only [Bool.or_eq_true, Bool.and_eq_true, Nat.blt_eq]
  have e : Nat.ble (S k).next i = true ↔ (S k).next ≤ i := ⟨Nat.le_of_ble_eq_true, Nat.ble_eq_true_of_le⟩
  rw [e]
  cases F k with
  | part rs ws m =>
    simp only [List.any_eq_true]
    constructor
    · rintro (h | ⟨j, hj, h⟩)
      · exact .inl h
      · have := Nat.eq_of_beq_eq_true h
        subst this
        exact .inr ⟨hj, fun h => by cases h⟩
    · rintro (h | ⟨h, _⟩)
      · exact .inl h
      · exact .inr ⟨i, h, by simp⟩
  | all x =>
    simp only [Bool.and_eq_true, Nat.blt_eq, FP.all.injEq]
    constructor
    · rintro (h | ⟨h1, h2⟩)
      · exact .inl h
      · exact .inr ⟨h1, fun _ => h2⟩
    · rintro (h | ⟨h1, h2⟩)
      · exact .inl h
      · exact .inr ⟨h1, h2 h1⟩
section
variable {cx : Ctx} {ops : Array Oper} {A : Nat → Fr} {S : Nat → St} {V : Nat → Value} {F : Nat → FP} (T : Trace cx ops A S V F)
  (st : ∀ j, j < ops.size → ∃ W, Stat cx (S j) (S (j + 1)) (F j) W) (hwf : ∀ k, k ≤ ops.size → WF (vw cx (S k)))
section
include st
theorem next_mono {j k : Nat} (h : j ≤ k) (hk : k ≤ ops.size) : (S j).next ≤ (S k).next := by
  induction k with
  | zero =>
    have : j = 0 := by omega
    rw [this]
    exact Nat.le_refl _
  | succ k ih =>
    rcases Nat.lt_or_ge k j with hlt | hge
    · have : j = k + 1 := by omega
      rw [this]
      exact Nat.le_refl _
    · obtain ⟨W, hs⟩ := st k hk
      exact Nat.le_trans (ih hge (by omega)) hs.next
theorem nextC_mono {j k : Nat} (h : j ≤ k) (hk : k ≤ ops.size) : (S j).nextC ≤ (S k).nextC := by
  induction k with
  | zero =>
    have : j = 0 := by omega
    rw [this]
    exact Nat.le_refl _
  | succ k ih =>
    rcases Nat.lt_or_ge k j with hlt | hge
    · have : j = k + 1 := by omega
      rw [this]
      exact Nat.le_refl _
    · obtain ⟨W, hs⟩ := st k hk
      exact Nat.le_trans (ih hge (by omega)) hs.nextC
theorem low_anti {j k : Nat} (h : j ≤ k) (hk : k ≤ ops.size) : (S k).low ≤ (S j).low := by
  induction k with
  | zero =>
    have : j = 0 := by omega
    rw [this]
    exact Nat.le_refl _
  | succ k ih =>
    rcases Nat.lt_or_ge k j with hlt | hge
    · have : j = k + 1 := by omega
      rw [this]
      exact Nat.le_refl _
    · obtain ⟨W, hs⟩ := st k hk
      exact Nat.le_trans hs.low (ih hge (by omega))
theorem caps_same {j k c : Nat} (h : j ≤ k) (hk : k ≤ ops.size) (hc : c < (S j).nextC) : (S k).caps.get c = (S j).caps.get c := by
  induction k with
  | zero =>
    have : j = 0 := by omega
    rw [this]
  | succ k ih =>
    rcases Nat.lt_or_ge k j with hlt | hge
    · have : j = k + 1 := by omega
      rw [this]
    · obtain ⟨W, hs⟩ := st k hk
      have hm := nextC_mono st hge (by omega)
      rw [hs.sameC c (by omega), ih hge (by omega)]
theorem range_uniq {k m i : Nat} (hk : k < ops.size) (hm : m < ops.size) (h1 : (S k).next ≤ i ∧ i < (S (k + 1)).next) (h2 : (S m).next ≤ i ∧ i < (S (m + 1)).next) : k = m := by
  rcases Nat.lt_trichotomy k m with h | h | h
  · have := next_mono st (j := k + 1) (k := m) h (by omega)
    omega
  · exact h
  · have := next_mono st (j := m + 1) (k := k) h (by omega)
    omega
theorem rangeC_uniq {k m i : Nat} (hk : k < ops.size) (hm : m < ops.size) (h1 : (S k).nextC ≤ i ∧ i < (S (k + 1)).nextC) (h2 : (S m).nextC ≤ i ∧ i < (S (m + 1)).nextC) : k = m := by
  rcases Nat.lt_trichotomy k m with h | h | h
  · have := nextC_mono st (j := k + 1) (k := m) h (by omega)
    omega
  · exact h
  · have := nextC_mono st (j := m + 1) (k := k) h (by omega)
    omega
include hwf in
theorem look_ver {L : Nat → Bool} {i : Nat} : ∀ k, k ≤ ops.size → (∀ m, m < k → touch S F m i = true → L m = true) → look cx (S k) i = look cx (S (ver S F L k i)) i
  | 0, _, _ => rfl
  | k + 1, hk, h => by
    rw [ver_succ]
    cases ht : touch S F k i with
    | true => rw [h k (Nat.lt_succ_self k) ht]; rfl
    | false =>
      have ih := look_ver k (by omega) fun m hm => h m (by omega)
      simp only [Bool.and_false, Bool.false_eq_true, if_false]
      rw [← ih]
      obtain ⟨W, hs⟩ := st k hk
      have hnt : ¬ touch S F k i = true := by rw [ht]; simp
      rw [touch_iff] at hnt
      rcases Nat.lt_or_ge i (S k).next with hlt | hge
      · refine hs.same i hlt fun hW => hnt (.inr ⟨?_, fun _ => hlt⟩)
        have := hs.writes
        cases hF : F k with
        | part rs ws m =>
          rw [hF] at this
          exact this i hW
        | all x =>
          rw [hF] at this
          exact this i hW
      · have hge' : (S (k + 1)).next ≤ i := Nat.le_of_not_lt fun h => hnt (.inl ⟨hge, h⟩)
        have n1 : look cx (S k) i = none := by
          cases hl : look cx (S k) i with
          | none => rfl
          | some o => exact absurd ((hwf k (by omega)).lt i o hl) (Nat.not_lt.2 hge)
        have n2 : look cx (S (k + 1)) i = none := by
          cases hl : look cx (S (k + 1)) i with
          | none => rfl
          | some o => exact absurd ((hwf (k + 1) hk).lt i o hl) (Nat.not_lt.2 hge')
        rw [n1, n2]
end
section
include T
theorem A_n {k : Nat} (hk : k ≤ ops.size) : (A k).n = (A 0).n := by
  induction k with
  | zero => rfl
  | succ k ih =>
    have hk' : k < ops.size := hk
    rw [T.put k ops[k] (by simp [hk']), Fr.put_n, ih (by omega)]
theorem get_step (hsm : (A 0).n ≤ 1000000) {k : Nat} (hk : k < ops.size) (t : Nat) : (A (k + 1)).t.get t = if writesTmp ops k t = true ∧ t < (A 0).n then some (V k) else (A k).t.get t := by
  have ho : ops[k]? = some ops[k] := by simp [hk]
  rw [T.put k _ ho]
  unfold writesTmp
  rw [ho]
  cases hd : ops[k].dst with
  | none => simp [hd, Fr.get_put_none]
  | some d =>
    rw [Fr.get_put (by rw [A_n T (Nat.le_of_lt hk)]; exact hsm), A_n T (Nat.le_of_lt hk)]
    simp only [Option.bind_some, hd]
    by_cases e : t = d
    · subst e
      simp
    · have : Nat.beq d t = false := by
        cases hb : Nat.beq d t
        · rfl
        · exact absurd (Nat.eq_of_beq_eq_true hb).symm e
      simp [e, this]
theorem get_wr (hsm : (A 0).n ≤ 1000000) {L : Nat → Bool} {t : Nat} : ∀ k, k ≤ ops.size → (∀ m, m < k → writesTmp ops m t = true → L m = true) → (A k).t.get t = (A (wr ops L k t)).t.get t
  | 0, _, _ => rfl
  | k + 1, hk, h => by
    rw [wr_succ]
    cases ht : writesTmp ops k t with
    | true => rw [h k (Nat.lt_succ_self k) ht]; rfl
    | false =>
      have ih := get_wr hsm k (by omega) fun m hm => h m (by omega)
      simp only [Bool.and_false, Bool.false_eq_true, if_false]
      rw [← ih, get_step T hsm hk, ht]
      simp
end
def cutAt (S : Nat → St) (η : Env) (m : Nat) : Env := cut η (S m).next (S m).nextC
structure RInv (cx : Ctx) (ops : Array Oper) (A : Nat → Fr) (S : Nat → St) (F : Nat → FP) (η0 : Env) (w0 : World) (L : Nat → Bool) (act : Act) (η : Env) (w : World) : Prop where
  shut : Shut ops (fun j => L j = true)
  below : ∀ j, L j = true → j < ops.size
  old : ∀ i, i < (S 0).next → η.blk i = η0.blk i
  oldC : ∀ i, i < (S 0).nextC → η.cap i = η0.cap i
  dom : ∀ i, (η.blk i).isSome → i < (S 0).next ∨ ∃ k, L k = true ∧ (S k).next ≤ i ∧ i < (S (k + 1)).next
  domC : ∀ i, (η.cap i).isSome → i < (S 0).nextC ∨ ∃ k, L k = true ∧ (S k).nextC ≤ i ∧ i < (S (k + 1)).nextC
  obj : ∀ i o b, η.blk i = some b → look cx (S (ver S F L ops.size i)) i = some o → (∀ x ∈ o.cells, ok (cutAt S η (ver S F L ops.size i)) x) ∧ o.den (cutAt S η (ver S F L ops.size i)) w b
  inj : ∀ i j o p b, look cx (S (ver S F L ops.size i)) i = some o → look cx (S (ver S F L ops.size j)) j = some p → η.blk i = some b → η.blk j = some b → i = j
  caps : ∀ k lo c, (S ops.size).caps.get k = some lo → η.cap k = some c → lo ≤ c ∧ c < capBase
  defers : act.defers = []
  asize : act.tmps.size = (A 0).n
  val : ∀ t, act.tmps.getD t undef = ren η (orUndef ((A (wr ops L ops.size t)).t.get t))
  oks : ∀ t, ok (cutAt S η (wr ops L ops.size t)) (orUndef ((A (wr ops L ops.size t)).t.get t))
  os : w.os = w0.os
  tape : w.tape = w0.tape
  output : w.output = w0.output
  size : w0.heap.size ≤ w.heap.size
  frame : ∀ b, b < w0.heap.size → (∀ i, coarse (vw cx (S 0)) (vw cx (S ops.size)) i → η0.blk i ≠ some b) → w.heap[b]? = w0.heap[b]?
  orig : ∀ i o b, look cx (S (ver S F L ops.size i)) i = some o → η.blk i = some b → w0.heap.size ≤ b ∨
    ∃ j p, look cx (S 0) j = some p ∧ η0.blk j = some b ∧ p.isRo = o.isRo ∧ (i = j ∨ coarse (vw cx (S 0)) (vw cx (S ops.size)) j)
section
variable {η0 : Env} {w0 : World} {L : Nat → Bool} {act : Act} {η : Env} {w : World} (R : RInv cx ops A S F η0 w0 L act η w)
  {j : Nat} {o : Oper} (hj : j < ops.size) (ho : ops[j]? = some o) (hL : L j = false) (hready : ∀ e ∈ o.after, Region.binds .any e = true → L e.on = true)
include T st hwf R hj ho hL hready
omit st hwf hj hL in
theorem anc {i : Nat} (h : ((Region.before ops).getD j 0).testBit i = true) : L i = true :=
  before_mem T.back R.shut j i o ho hready h
omit st hwf hj ho hready in
theorem desc {m : Nat} (hm : L m = true) (h : ((Region.before ops).getD m 0).testBit j = true) : False := by
  have hlt := R.below m hm
  have hom : ops[m]? = some ops[m] := by simp [hlt]
  have := before_mem T.back R.shut m j ops[m] hom (R.shut m _ hm hom) h
  rw [hL] at this
  cases this
theorem seen_ver {i : Nat} (hi : (η.blk i).isSome) (hh : (F j).has i) {p : SObj} (hp : look cx (S j) i = some p) :
    ver S F L ops.size i = ver S F L j i ∧ look cx (S (ver S F L ops.size i)) i = some p ∧ ver S F L ops.size i ≤ j := by
  have hlt : i < (S j).next := (hwf j (Nat.le_of_lt hj)).lt i p hp
  have hA : ∀ m, m < j → touch S F m i = true → L m = true := by
    intro m hm ht
    have hmn : m < ops.size := Nat.lt_trans hm hj
    rcases touch_iff.1 ht with h | ⟨h, _⟩
    · rcases R.dom i hi with h0 | ⟨k, hk, h1⟩
      · have := next_mono st (Nat.zero_le m) (Nat.le_of_lt hmn)
        omega
      · rw [← range_uniq st (R.below k hk) hmn h1 h]
        exact hk
    · exact anc T R ho hready (T.conf j m hj hm (conflict_of hh h).1)
  have hB : ∀ m, j ≤ m → m < ops.size → L m = true → touch S F m i = false := by
    intro m hm hmn hLm
    have hne : m ≠ j := fun e => by rw [e, hL] at hLm; cases hLm
    cases ht : touch S F m i with
    | false => rfl
    | true =>
      rcases touch_iff.1 ht with h | ⟨h, _⟩
      · have := next_mono st hm (Nat.le_of_lt hmn)
        omega
      · exact (desc T R hL hLm (T.conf m j hmn (by omega) (conflict_of hh h).2)).elim
  have e := ver_skip (S := S) (F := F) (L := L) (i := i) ops.size (Nat.le_of_lt hj) hB
  refine ⟨e, ?_, ?_⟩
  · rw [e, ← look_ver st hwf j (Nat.le_of_lt hj) hA, hp]
  · rw [e]
    exact ver_le _ _
omit hwf st in
theorem tmp_wr (hsm : (A 0).n ≤ 1000000) {t : Nat} (h1 : ∀ m, m < j → writesTmp ops m t = true → L m = true) (h2 : ∀ m, j ≤ m → m < ops.size → L m = true → writesTmp ops m t = false) :
    wr ops L ops.size t ≤ j ∧ (A (wr ops L ops.size t)).t.get t = (A j).t.get t := by
  have e := wr_skip (L := L) (t := t) ops.size (Nat.le_of_lt hj) h2
  refine ⟨?_, ?_⟩
  · rw [e]
    exact wr_le _ _
  · rw [e, ← get_wr T hsm j (Nat.le_of_lt hj) h1]
theorem operand_ok (hsm : (A 0).n ≤ 1000000) (hglob : ∀ g, g < cx.P.globals.size → η0.blk g = some g ∧ g < (S 0).next) {x : Operand} (hx : x ∈ o.op.operands) :
    ok (cutAt S η j) ((A j).eval x) ∧ act.eval x = ren (cutAt S η j) ((A j).eval x) := by
  have hop := T.opnd j o ho x hx
  cases x with
  | tmp t =>
    have huse : ∀ (m : Nat) (y : Oper), ops[m]? = some y → y.dst = some t → usesDst y o = true := by
      intro m y _ hd
      unfold usesDst
      rw [hd]
      simp only [opTmps, List.any_eq_true, List.mem_filterMap]
      exact ⟨t, ⟨.tmp t, by simpa using hx, rfl⟩, by simp⟩
    have hwr : ∀ m, writesTmp ops m t = true → ∃ y, ops[m]? = some y ∧ y.dst = some t := by
      intro m hm
      unfold writesTmp at hm
      cases hy : ops[m]? with
      | none => simp [hy] at hm
      | some y =>
        simp only [hy, Option.bind_some] at hm
        cases hd : y.dst with
        | none => simp [hd] at hm
        | some d =>
          simp only [hd] at hm
          exact ⟨y, rfl, by rw [hd, Nat.eq_of_beq_eq_true hm]⟩
    obtain ⟨hle, hget⟩ := tmp_wr T R hj ho hL hready hsm (t := t)
      (fun m hm hw => by
        obtain ⟨y, hy, hd⟩ := hwr m hw
        have hp := T.pairs m j y o hy ho hm
        unfold pairOk at hp
        rw [huse m y hy hd] at hp
        simp only [Bool.and_eq_true, Bool.or_eq_true, Bool.not_true, Bool.false_and, Bool.false_eq_true, false_or] at hp
        exact anc T R ho hready hp.2)
      (fun m hm hmn hLm => by
        have hne : m ≠ j := fun e => by rw [e, hL] at hLm; cases hLm
        cases hw : writesTmp ops m t with
        | false => rfl
        | true =>
          obtain ⟨y, hy, hd⟩ := hwr m hw
          have hp := T.pairs j m o y ho hy (by omega)
          unfold pairOk at hp
          rw [huse m y hy hd] at hp
          simp only [Bool.and_eq_true, Bool.or_eq_true, Bool.not_true, Bool.and_false, Bool.false_eq_true, false_or] at hp
          exact (desc T R hL hLm hp.2).elim)
    have hn := R.oks t
    have hv := R.val t
    rw [hget] at hn hv
    have hok : ok (cutAt S η j) (orUndef ((A j).t.get t)) := ok_ext (cut_mono (next_mono st hle (Nat.le_of_lt hj)) (nextC_mono st hle (Nat.le_of_lt hj))) _ hn
    refine ⟨hok, ?_⟩
    show act.tmps.getD t undef = _
    rw [hv]
    exact ren_ext cut_ext _ hok
  | const v =>
    have hp := plain_const hop
    exact ⟨plain_ok _ v hp, (ren_plain _ v hp).symm⟩
  | global g =>
    have hlt : g < cx.P.globals.size := by simpa [operandOk, Nat.blt_eq] using hop
    obtain ⟨hb, hn⟩ := hglob g hlt
    have hnj := next_mono st (Nat.zero_le j) (Nat.le_of_lt hj)
    have hc : (cutAt S η j).blk g = some g := by
      show (if g < (S j).next then η.blk g else none) = some g
      rw [if_pos (by omega), R.old g hn, hb]
    refine ⟨?_, ?_⟩
    · show ok _ (.pointer (some ⟨g, 0, none⟩))
      rw [ok_pointer, hc]
      rfl
    · show Value.pointer (some ⟨g, 0, none⟩) = ren _ (.pointer (some ⟨g, 0, none⟩))
      simp only [ren, Option.map_some, renA_new hc]
  | func f => exact ⟨by simp [Fr.eval, ok, okA, okL], rfl⟩
theorem wanted_ok (hsm : (A 0).n ≤ 1000000) : Region.wanted o (yielded ops act.tmps) = wantedS ops (A j) o := by
  refine wanted_eq (η := η) fun g want hg => ?_
  obtain ⟨hbit, hlt⟩ := T.guard j o g want ho hg
  refine yielded_eq (η := η) fun y d hy hd => ?_
  have hwr : ∀ m, writesTmp ops m d = true → ∃ z, ops[m]? = some z ∧ z.dst = some d := by
    intro m hm
    unfold writesTmp at hm
    cases hz : ops[m]? with
    | none => simp [hz] at hm
    | some z =>
      simp only [hz, Option.bind_some] at hm
      cases hd' : z.dst with
      | none => simp [hd'] at hm
      | some d' =>
        simp only [hd'] at hm
        exact ⟨z, rfl, by rw [hd', Nat.eq_of_beq_eq_true hm]⟩
  have hsame : ∀ {x z : Oper}, x.dst = some d → z.dst = some d → sameDst x z = true := by
    intro x z h1 h2
    unfold sameDst
    rw [h1, h2]
    simp
  have honly : ∀ m, writesTmp ops m d = true → m = g := by
    intro m hm
    obtain ⟨z, hz, hzd⟩ := hwr m hm
    rcases Nat.lt_trichotomy m g with h | h | h
    · have := T.pairs m g z y hz hy h
      unfold pairOk at this
      rw [hsame hzd hd] at this
      simp at this
    · exact h
    · have := T.pairs g m y z hy hz h
      unfold pairOk at this
      rw [hsame hd hzd] at this
      simp at this
  obtain ⟨hle, hget⟩ := tmp_wr T R hj ho hL hready hsm (t := d)
    (fun m _ hw => by rw [honly m hw]; exact anc T R ho hready hbit)
    (fun m hm _ _ => by
      cases hw : writesTmp ops m d with
      | false => rfl
      | true =>
        have := honly m hw
        omega)
  have hv := R.val d
  rw [hget] at hv
  exact hv
theorem den_at (hglob : ∀ g, g < cx.P.globals.size → η0.blk g = some g ∧ g < (S 0).next) :
    Den cx.P (F j).has (vw cx (S j)) (cutAt S η j) w where
  glob := fun g hg => by
    obtain ⟨hb, hn⟩ := hglob g hg
    have hnj := next_mono st (Nat.zero_le j) (Nat.le_of_lt hj)
    show (if g < (S j).next then η.blk g else none) = some g
    rw [if_pos (by omega), R.old g hn, hb]
  obj := fun i p b hD hp hb => by
    have hb' := cut_ext.blk i b hb
    obtain ⟨e1, e2, e3⟩ := seen_ver T st hwf R hj ho hL hready (by rw [hb']; rfl) hD hp
    obtain ⟨h1, h2⟩ := R.obj i p b hb' e2
    have hext : Ext (cutAt S η (ver S F L ops.size i)) (cutAt S η j) := cut_mono (next_mono st e3 (Nat.le_of_lt hj)) (nextC_mono st e3 (Nat.le_of_lt hj))
    exact ⟨fun x hx => ok_ext hext x (h1 x hx), SObj.den_keep hext h1 rfl h2⟩
  inj := fun i k p q b hi hk hp hq ei ek => by
    have ei' := cut_ext.blk i b ei
    have ek' := cut_ext.blk k b ek
    obtain ⟨_, e2, _⟩ := seen_ver T st hwf R hj ho hL hready (by rw [ei']; rfl) hi hp
    obtain ⟨_, e4, _⟩ := seen_ver T st hwf R hj ho hL hready (by rw [ek']; rfl) hk hq
    exact R.inj i k p q b e2 e4 ei' ek'
  caps := fun k lo c hk hc => by
    have hc' := cut_ext.cap k c hc
    have hlt : k < (S j).nextC := (hwf j (Nat.le_of_lt hj)).caps k lo hk
    refine R.caps k lo c ?_ hc'
    rw [caps_same st (Nat.le_of_lt hj) (Nat.le_refl _) hlt]
    exact hk
  dom := fun i hi => by
    change (S j).next ≤ i at hi
    show (if i < (S j).next then η.blk i else none) = none
    rw [if_neg (by omega)]
  domC := fun i hi => by
    change (S j).nextC ≤ i at hi
    show (if i < (S j).nextC then η.cap i else none) = none
    rw [if_neg (by omega)]
end
end
end
end Go.Sym
namespace Go.Sym
open Go
noncomputable section
set_option maxRecDepth 20000
def upd (L : Nat → Bool) (j : Nat) : Nat → Bool := fun m => Nat.beq m j || L m
theorem upd_iff {L : Nat → Bool} {j m : Nat} : upd L j m = true ↔ m = j ∨ L m = true := by
  unfold upd
  rw [Bool.or_eq_true]
  constructor
  · rintro (h | h)
    · exact .inl (Nat.eq_of_beq_eq_true h)
    · exact .inr h
  · rintro (h | h)
    · exact .inl (by rw [h]; simp)
    · exact .inr h
theorem touch_lt {cx : Ctx} {S : Nat → St} {F : Nat → FP} {k i : Nat} (hhas : (F k).hits i → F k ≠ .all true → i < (S k).next) (hn : (S k).next ≤ (S (k + 1)).next) (h : touch S F k i = true) : i < (S (k + 1)).next := by
  rcases touch_iff.1 h with h | ⟨h1, h2⟩
  · exact h.2
  · by_cases e : F k = .all true
    · exact Nat.lt_of_lt_of_le (h2 e) hn
    · exact Nat.lt_of_lt_of_le (hhas h1 e) hn
section
variable {cx : Ctx} {ops : Array Oper} {A : Nat → Fr} {S : Nat → St} {V : Nat → Value} {F : Nat → FP} (T : Trace cx ops A S V F)
  (st : ∀ j, j < ops.size → ∃ W, Stat cx (S j) (S (j + 1)) (F j) W) (hwf : ∀ k, k ≤ ops.size → WF (vw cx (S k)))
  {η0 : Env} {w0 : World} (hsm : (A 0).n ≤ 1000000) (hglob : ∀ g, g < cx.P.globals.size → η0.blk g = some g ∧ g < (S 0).next)
  {L : Nat → Bool} {act : Act} {η : Env} {w : World} (R : RInv cx ops A S F η0 w0 L act η w)
  {j : Nat} {o : Oper} (hj : j < ops.size) (ho : ops[j]? = some o) (hL : L j = false) (hready : ∀ e ∈ o.after, Region.binds .any e = true → L e.on = true)
include T st hwf hsm hglob R hj ho hL hready
theorem hits_lt {i : Nat} (h : (F j).has i) (hne : ∀ x, F j ≠ .all x) : i < (S j).next ∧ (η.blk i).isSome := by
  cases hF : F j with
  | all x => exact absurd hF (hne x)
  | part rs ws m =>
    rw [hF] at h
    obtain ⟨x, hx, hb⟩ := T.names j o ho rs ws m hF i h
    obtain ⟨hok, _⟩ := operand_ok T st hwf R hj ho hL hready hsm hglob hx
    have : ((cutAt S η j).blk i).isSome := by
      unfold blockOf at hb
      split at hb
      · rename_i a e
        rw [e] at hok
        simp only [List.mem_singleton] at hb
        subst hb
        exact ok_pointer.1 hok
      · rename_i a n c e
        rw [e] at hok
        simp only [List.mem_singleton] at hb
        subst hb
        simp only [ok] at hok
        exact hok.1 a rfl
      · cases hb
    obtain ⟨b, hb⟩ := Option.isSome_iff_exists.1 this
    have hb' : (if i < (S j).next then η.blk i else none) = some b := hb
    split at hb'
    · rename_i hlt
      exact ⟨hlt, by rw [hb']; rfl⟩
    · cases hb'
theorem touch_later {m i : Nat} (hm : L m = true) (hjm : j < m) (hmn : m < ops.size) (h1 : touch S F j i = true) (hnamed : (F m).hits i → (∀ x, F m ≠ .all x) → (η.blk i).isSome) : touch S F m i = false := by
  cases h2 : touch S F m i with
  | false => rfl
  | true =>
    exfalso
    have hmono := next_mono st (j := j + 1) (k := m) hjm (Nat.le_of_lt hmn)
    have hnj := next_mono st (j := j) (k := j + 1) (Nat.le_succ j) hj
    rcases touch_iff.1 h1 with g1 | ⟨g1, g1'⟩
    · rcases touch_iff.1 h2 with g2 | ⟨g2, g2'⟩
      · omega
      · cases hF : F m with
        | part rs ws mk =>
          have := hnamed g2 (fun x e => by rw [hF] at e; cases e)
          rcases R.dom i this with h0 | ⟨k, hk, h3⟩
          · have := next_mono st (Nat.zero_le j) (Nat.le_of_lt hj)
            omega
          · have := range_uniq st (R.below k hk) hj h3 g1
            rw [this, hL] at hk
            cases hk
        | all x =>
          have hx : F m = .all true := by
            rw [hF] at g2
            simp only [FP.hits] at g2
            rw [hF, g2]
          have hmk : (F j).makes = true := by
            cases hmk : (F j).makes with
            | true => rfl
            | false =>
              obtain ⟨W, hs⟩ := st j hj
              have := hs.makes hmk
              omega
          exact desc T R hL hm (T.conf m j hmn hjm (conflict_makes hx hmk).1)
    · have hlt : i < (S j).next := by
        by_cases e : F j = .all true
        · exact g1' e
        · refine (hits_lt T st hwf hsm hglob R hj ho hL hready (i := i) ?_ ?_).1
          · revert g1
            cases F j with
            | part rs ws mk => exact fun g1 => .inr g1
            | all x => exact fun _ => trivial
          · intro x ex
            rw [ex] at g1
            simp only [FP.hits] at g1
            rw [g1] at ex
            exact e ex
      rcases touch_iff.1 h2 with g2 | ⟨g2, g2'⟩
      · omega
      · have hhas : (F j).has i := by
          revert g1
          cases F j with
          | part rs ws mk => exact fun g1 => .inr g1
          | all x => exact fun _ => trivial
        exact desc T R hL hm (T.conf m j hmn hjm (conflict_of hhas g2).2)
theorem rinv_step (hnamed : ∀ m, L m = true → ∀ i, (F m).hits i → (∀ x, F m ≠ .all x) → (η.blk i).isSome)
    {η' : Env} {w' : World} {W : Nat → Prop} (hW : (F j).writes W) (hk : Kept (vw cx (S j)) (cutAt S η j) w (vw cx (S (j + 1))) η' w' W)
    (hd : Den cx.P (fun i => (F j).has i ∨ (S j).next ≤ i) (vw cx (S (j + 1))) η' w') (hv : ok η' (V j)) :
    let η2 := merge η η' (S j).next (S (j + 1)).next (S j).nextC (S (j + 1)).nextC
    RInv cx ops A S F η0 w0 (upd L j) (act.put o.dst (ren η' (V j))) η2 w' ∧ (∀ m, upd L j m = true → ∀ i, (F m).hits i → (∀ x, F m ≠ .all x) → (η2.blk i).isSome) := by
  intro η2
  have hwfj := hwf j (Nat.le_of_lt hj)
  have hwfj1 := hwf (j + 1) hj
  have hnn : (S j).next ≤ (S (j + 1)).next := next_mono st (Nat.le_succ j) hj
  have hnC : (S j).nextC ≤ (S (j + 1)).nextC := nextC_mono st (Nat.le_succ j) hj
  have h0j := next_mono st (Nat.zero_le j) (Nat.le_of_lt hj)
  have h0jC := nextC_mono st (Nat.zero_le j) (Nat.le_of_lt hj)
  have hin : ∀ i, (S j).next ≤ i ∧ i < (S (j + 1)).next → η2.blk i = η'.blk i := fun i hi => if_pos hi
  have hout : ∀ i, ¬ ((S j).next ≤ i ∧ i < (S (j + 1)).next) → η2.blk i = η.blk i := fun i hi => if_neg hi
  have hinC : ∀ i, (S j).nextC ≤ i ∧ i < (S (j + 1)).nextC → η2.cap i = η'.cap i := fun i hi => if_pos hi
  have houtC : ∀ i, ¬ ((S j).nextC ≤ i ∧ i < (S (j + 1)).nextC) → η2.cap i = η.cap i := fun i hi => if_neg hi
  have hfree : ∀ i, (S j).next ≤ i ∧ i < (S (j + 1)).next → η.blk i = none := by
    intro i hi
    cases hb : η.blk i with
    | none => rfl
    | some b =>
      rcases R.dom i (by rw [hb]; rfl) with h0 | ⟨k, hk', h3⟩
      · omega
      · have := range_uniq st (R.below k hk') hj h3 hi
        rw [this, hL] at hk'
        cases hk'
  have hfreeC : ∀ i, (S j).nextC ≤ i ∧ i < (S (j + 1)).nextC → η.cap i = none := by
    intro i hi
    cases hb : η.cap i with
    | none => rfl
    | some b =>
      rcases R.domC i (by rw [hb]; rfl) with h0 | ⟨k, hk', h3⟩
      · omega
      · have := rangeC_uniq st (R.below k hk') hj h3 hi
        rw [this, hL] at hk'
        cases hk'
  have hext : Ext η η2 := by
    refine ⟨fun i b hb => ?_, fun i b hb => ?_⟩
    · rw [hout i (fun hi => (by rw [hfree i hi] at hb; cases hb)), hb]
    · rw [houtC i (fun hi => (by rw [hfreeC i hi] at hb; cases hb)), hb]
  have hcut : η' = cutAt S η2 (j + 1) := by
    have e1 : η'.blk = (cutAt S η2 (j + 1)).blk := by
      funext i
      show η'.blk i = if i < (S (j + 1)).next then η2.blk i else none
      by_cases h1 : i < (S (j + 1)).next
      · rw [if_pos h1]
        by_cases h2 : (S j).next ≤ i
        · rw [hin i ⟨h2, h1⟩]
        · rw [hout i fun h => h2 h.1, hk.only i (.inl (Nat.lt_of_not_le h2))]
          show (if i < (S j).next then η.blk i else none) = _
          rw [if_pos (Nat.lt_of_not_le h2)]
      · rw [if_neg h1]
        exact hd.dom i (Nat.le_of_not_lt h1)
    have e2 : η'.cap = (cutAt S η2 (j + 1)).cap := by
      funext i
      show η'.cap i = if i < (S (j + 1)).nextC then η2.cap i else none
      by_cases h1 : i < (S (j + 1)).nextC
      · rw [if_pos h1]
        by_cases h2 : (S j).nextC ≤ i
        · rw [hinC i ⟨h2, h1⟩]
        · rw [houtC i fun h => h2 h.1, hk.onlyC i (.inl (Nat.lt_of_not_le h2))]
          show (if i < (S j).nextC then η.cap i else none) = _
          rw [if_pos (Nat.lt_of_not_le h2)]
      · rw [if_neg h1]
        exact hd.domC i (Nat.le_of_not_lt h1)
    cases η' with
    | mk b c =>
      simp only at e1 e2
      rw [e1, e2]
  have hext' : Ext η' η2 := by rw [hcut]; exact cut_ext
  have hup : ∀ m, Ext (cutAt S η m) (cutAt S η2 m) := fun m => cut_of_ext hext
  have hWhas : ∀ i, W i → (F j).has i := by
    intro i hi
    revert hW
    cases F j with
    | part rs ws mk => exact fun hW => .inr (hW i hi)
    | all x => exact fun _ => trivial
  have hWtouch : ∀ i, W i → touch S F j i = true := by
    intro i hi
    refine touch_iff.2 (.inr ⟨?_, fun _ => ?_⟩)
    · revert hW
      cases F j with
      | part rs ws mk => exact fun hW => hW i hi
      | all x => exact fun hW => hW i hi
    · obtain ⟨p, hp, _⟩ := hk.live i hi
      exact hwfj.lt i p hp
  have hnotl : ∀ i, touch S F j i = false → ver S F (upd L j) ops.size i = ver S F L ops.size i := by
    intro i hi
    refine ver_congr _ fun m _ hm => ?_
    have hne : m ≠ j := fun e => by rw [e, hi] at hm; cases hm
    cases hLm : L m with
    | true => exact upd_iff.2 (.inr hLm)
    | false =>
      cases hu : upd L j m with
      | false => rfl
      | true =>
        rcases upd_iff.1 hu with h | h
        · exact absurd h hne
        · rw [hLm] at h; cases h
  have hyes : ∀ i, touch S F j i = true → ver S F (upd L j) ops.size i = j + 1 := by
    intro i hi
    have e := ver_skip (S := S) (F := F) (L := upd L j) (j := j + 1) (i := i) ops.size hj (fun m h1 h2 h3 => by
      have h4 : L m = true := by
        rcases upd_iff.1 h3 with h | h
        · omega
        · exact h
      exact touch_later T st hwf hsm hglob R hj ho hL hready h4 (by omega) h2 hi (hnamed m h4 i))
    rw [e, ver_succ, hi, show upd L j j = true from upd_iff.2 (.inl rfl)]
    rfl
  have htlt : ∀ i, touch S F j i = true → i < (S (j + 1)).next := by
    intro i hi
    refine touch_lt (cx := cx) (fun h hne => ?_) hnn hi
    refine (hits_lt T st hwf hsm hglob R hj ho hL hready (i := i) ?_ ?_).1
    · revert h
      cases F j with
      | part rs ws mk => exact fun h => .inr h
      | all x => exact fun _ => trivial
    · intro x ex
      rw [ex] at h
      simp only [FP.hits] at h
      rw [h] at ex
      exact hne ex
  have hD' : ∀ i, touch S F j i = true → ((F j).has i ∨ (S j).next ≤ i) := by
    intro i hi
    rcases touch_iff.1 hi with h | ⟨h, _⟩
    · exact .inr h.1
    · refine .inl ?_
      revert h
      cases F j with
      | part rs ws mk => exact fun h => .inr h
      | all x => exact fun _ => trivial
  have hblk2 : ∀ i, touch S F j i = true → ∀ b, η2.blk i = some b → η'.blk i = some b := by
    intro i hi b hb
    rw [hcut]
    show (if i < (S (j + 1)).next then η2.blk i else none) = some b
    rw [if_pos (htlt i hi), hb]
  have hblkN : ∀ i, touch S F j i = false → ∀ b, η2.blk i = some b → η.blk i = some b := by
    intro i hi b hb
    rw [hout i fun h => by rw [touch_iff.2 (.inl h)] at hi; cases hi] at hb
    exact hb
  have hsameb : ∀ i p b, η.blk i = some b → touch S F j i = false → look cx (S (ver S F L ops.size i)) i = some p → w'.heap[b]? = w.heap[b]? := by
    intro i p b hb ht hp
    refine hk.frame b (SObj.den_lt (R.obj i p b hb hp).2) fun i' hi' e' => ?_
    have e'' := cut_ext.blk i' b e'
    obtain ⟨q, hq, _⟩ := hk.live i' hi'
    obtain ⟨_, hq2, _⟩ := seen_ver T st hwf R hj ho hL hready (by rw [e'']; rfl) (hWhas i' hi') hq
    have := R.inj i i' p q b hp hq2 hb e''
    subst this
    rw [hWtouch i hi'] at ht
    cases ht
  have hobj : ∀ i p b, η2.blk i = some b → look cx (S (ver S F (upd L j) ops.size i)) i = some p →
      (∀ x ∈ p.cells, ok (cutAt S η2 (ver S F (upd L j) ops.size i)) x) ∧ p.den (cutAt S η2 (ver S F (upd L j) ops.size i)) w' b := by
    intro i p b hb hp
    cases ht : touch S F j i with
    | true =>
      rw [hyes i ht] at hp ⊢
      rw [← hcut]
      exact hd.obj i p b (hD' i ht) hp (hblk2 i ht b hb)
    | false =>
      rw [hnotl i ht] at hp ⊢
      have hb' := hblkN i ht b hb
      obtain ⟨h1, h2⟩ := R.obj i p b hb' hp
      exact ⟨fun x hx => ok_ext (hup _) x (h1 x hx), SObj.den_keep (hup _) h1 (hsameb i p b hb' ht hp) h2⟩
  have hmix : ∀ i k p q b, touch S F j i = true → touch S F j k = false → look cx (S (j + 1)) i = some p → look cx (S (ver S F L ops.size k)) k = some q → η2.blk i = some b → η2.blk k = some b → i = k := by
    intro i k p q b hti htk hp hq ei ek
    have ek' := hblkN k htk b ek
    have ei' := hblk2 i hti b ei
    have hlt := SObj.den_lt (R.obj k q b ek' hq).2
    rcases hk.orig i p b hp ei' with h | ⟨i', p', h1, h2, _, h4⟩
    · omega
    · have h2' := cut_ext.blk i' b h2
      have hhas : (F j).has i' := by
        rcases h4 with rfl | h4
        · rcases touch_iff.1 hti with h | ⟨h, _⟩
          · have : i < (S j).next := hwfj.lt i p' h1
            omega
          · revert h
            cases F j with
            | part rs ws mk => exact fun h => .inr h
            | all x => exact fun _ => trivial
        · exact hWhas i' h4
      obtain ⟨_, hq2, _⟩ := seen_ver T st hwf R hj ho hL hready (by rw [h2']; rfl) hhas h1
      have e := R.inj i' k p' q b hq2 hq h2' ek'
      subst e
      rcases h4 with rfl | h4
      · rfl
      · rw [hWtouch i' h4] at htk
        cases htk
  have huniq : ∀ d, o.dst = some d → ∀ m, writesTmp ops m d = true → m = j := by
    intro d hd1 m hwm
    unfold writesTmp at hwm
    cases hy : ops[m]? with
    | none => simp [hy] at hwm
    | some y =>
      simp only [hy, Option.bind_some] at hwm
      cases hyd : y.dst with
      | none => simp [hyd] at hwm
      | some d' =>
        simp only [hyd] at hwm
        have := Nat.eq_of_beq_eq_true hwm
        subst this
        have h1 : sameDst o y = true := by unfold sameDst; rw [hd1, hyd]; simp
        have h2 : sameDst y o = true := by unfold sameDst; rw [hd1, hyd]; simp
        rcases Nat.lt_trichotomy m j with h | h | h
        · have hp := T.pairs m j y o hy ho h
          unfold pairOk at hp
          rw [h2] at hp
          simp at hp
        · exact h
        · have hp := T.pairs j m o y ho hy h
          unfold pairOk at hp
          rw [h1] at hp
          simp at hp
  have hlow : (S ops.size).low ≤ (S (j + 1)).low := low_anti st hj (Nat.le_refl _)
  refine ⟨{ shut := ?_, below := ?_, old := ?_, oldC := ?_, dom := ?_, domC := ?_, obj := hobj, inj := ?_, caps := ?_, defers := ?_, asize := ?_, val := ?_, oks := ?_,
            os := hk.os.trans R.os, tape := hk.tape.trans R.tape, output := hk.output.trans R.output, size := Nat.le_trans R.size hk.size, frame := ?_, orig := ?_ }, ?_⟩
  ·
    intro m y hm hy e he hb
    rcases upd_iff.1 hm with rfl | hm
    · rw [ho] at hy
      injection hy with hy
      subst hy
      exact upd_iff.2 (.inr (hready e he hb))
    · exact upd_iff.2 (.inr (R.shut m y hm hy e he hb))
  · intro m hm
    rcases upd_iff.1 hm with rfl | hm
    · exact hj
    · exact R.below m hm
  · intro i hi
    rw [hout i fun h => by omega]
    exact R.old i hi
  · intro i hi
    rw [houtC i fun h => by omega]
    exact R.oldC i hi
  · intro i hi
    by_cases h : (S j).next ≤ i ∧ i < (S (j + 1)).next
    · exact .inr ⟨j, upd_iff.2 (.inl rfl), h⟩
    · rw [hout i h] at hi
      exact (R.dom i hi).imp id fun ⟨k, h1, h2⟩ => ⟨k, upd_iff.2 (.inr h1), h2⟩
  · intro i hi
    by_cases h : (S j).nextC ≤ i ∧ i < (S (j + 1)).nextC
    · exact .inr ⟨j, upd_iff.2 (.inl rfl), h⟩
    · rw [houtC i h] at hi
      exact (R.domC i hi).imp id fun ⟨k, h1, h2⟩ => ⟨k, upd_iff.2 (.inr h1), h2⟩
  ·
    intro i k p q b hp hq ei ek
    cases hti : touch S F j i with
    | true =>
      rw [hyes i hti] at hp
      cases htk : touch S F j k with
      | true =>
        rw [hyes k htk] at hq
        exact hd.inj i k p q b (hD' i hti) (hD' k htk) hp hq (hblk2 i hti b ei) (hblk2 k htk b ek)
      | false =>
        rw [hnotl k htk] at hq
        exact hmix i k p q b hti htk hp hq ei ek
    | false =>
      rw [hnotl i hti] at hp
      cases htk : touch S F j k with
      | true =>
        rw [hyes k htk] at hq
        exact (hmix k i q p b htk hti hq hp ek ei).symm
      | false =>
        rw [hnotl k htk] at hq
        exact R.inj i k p q b hp hq (hblkN i hti b ei) (hblkN k htk b ek)
  ·
    intro c lo n hc he
    by_cases h : (S j).nextC ≤ c ∧ c < (S (j + 1)).nextC
    · rw [hinC c h] at he
      refine hd.caps c lo n ?_ he
      show (S (j + 1)).caps.get c = some lo
      rw [← caps_same st hj (Nat.le_refl _) h.2]
      exact hc
    · rw [houtC c h] at he
      exact R.caps c lo n hc he
  ·
    show (act.put o.dst _).defers = []
    cases o.dst with
    | none => exact R.defers
    | some d => exact R.defers
  · rw [Act.size_put]
    exact R.asize
  ·
    intro t
    cases hw : writesTmp ops j t with
    | true =>
      obtain ⟨d, hd1, hd2⟩ : ∃ d, o.dst = some d ∧ d = t := by
        unfold writesTmp at hw
        rw [ho] at hw
        simp only [Option.bind_some] at hw
        cases hdd : o.dst with
        | none => simp [hdd] at hw
        | some d =>
          simp only [hdd] at hw
          exact ⟨d, rfl, Nat.eq_of_beq_eq_true hw⟩
      subst hd2
      have hwr : wr ops (upd L j) ops.size d = j + 1 := by
        have e := wr_skip (L := upd L j) (j := j + 1) (t := d) ops.size hj (fun m h1 h2 h3 => by
          cases hwm : writesTmp ops m d with
          | false => rfl
          | true =>
            have := huniq d hd1 m hwm
            omega)
        rw [e, wr_succ, hw, show upd L j j = true from upd_iff.2 (.inl rfl)]
        rfl
      rw [hwr, get_step T hsm hj, hd1, Act.getD_put, R.asize]
      by_cases hlt : d < (A 0).n
      · rw [if_pos ⟨rfl, hlt⟩, if_pos ⟨hw, hlt⟩]
        exact (ren_ext hext' _ hv).symm
      · rw [if_neg fun h => hlt h.2, if_neg fun h => hlt h.2]
        have h1 := R.val d
        have hz : ∀ k, k ≤ ops.size → (A k).t.get d = (A 0).t.get d := by
          intro k
          induction k with
          | zero => exact fun _ => rfl
          | succ k ih =>
            intro hk'
            rw [get_step T hsm hk', if_neg fun h => hlt h.2]
            exact ih (by omega)
        rw [hz _ (wr_le _ _)] at h1
        rw [hz j (Nat.le_of_lt hj), h1]
        have h2 := R.oks d
        rw [hz _ (wr_le _ _)] at h2
        exact (ren_ext hext _ (ok_ext cut_ext _ h2)).symm
    | false =>
      have hwr : wr ops (upd L j) ops.size t = wr ops L ops.size t := by
        refine wr_congr _ fun m _ hm => ?_
        have hne : m ≠ j := fun e => by rw [e, hw] at hm; cases hm
        cases hLm : L m with
        | true => exact upd_iff.2 (.inr hLm)
        | false =>
          cases hu : upd L j m with
          | false => rfl
          | true =>
            rcases upd_iff.1 hu with h | h
            · exact absurd h hne
            · rw [hLm] at h; cases h
      rw [hwr]
      have h1 : (act.put o.dst (ren η' (V j))).tmps.getD t undef = act.tmps.getD t undef := by
        unfold writesTmp at hw
        rw [ho] at hw
        simp only [Option.bind_some] at hw
        cases hdd : o.dst with
        | none => rfl
        | some d =>
          simp only [hdd] at hw
          rw [Act.getD_put, if_neg]
          rintro ⟨h, _⟩
          subst h
          simp at hw
      rw [h1, R.val t]
      exact (ren_ext hext _ (ok_ext cut_ext _ (R.oks t))).symm
  ·
    intro t
    cases hw : writesTmp ops j t with
    | true =>
      obtain ⟨d, hd1, hd2⟩ : ∃ d, o.dst = some d ∧ d = t := by
        unfold writesTmp at hw
        rw [ho] at hw
        simp only [Option.bind_some] at hw
        cases hdd : o.dst with
        | none => simp [hdd] at hw
        | some d =>
          simp only [hdd] at hw
          exact ⟨d, rfl, Nat.eq_of_beq_eq_true hw⟩
      subst hd2
      have hwr : wr ops (upd L j) ops.size d = j + 1 := by
        have e := wr_skip (L := upd L j) (j := j + 1) (t := d) ops.size hj (fun m h1 h2 h3 => by
          cases hwm : writesTmp ops m d with
          | false => rfl
          | true =>
            have := huniq d hd1 m hwm
            omega)
        rw [e, wr_succ, hw, show upd L j j = true from upd_iff.2 (.inl rfl)]
        rfl
      rw [hwr, get_step T hsm hj]
      by_cases hlt : d < (A 0).n
      · rw [if_pos ⟨hw, hlt⟩, ← hcut]
        exact hv
      · rw [if_neg fun h => hlt h.2]
        have hz : ∀ k, k ≤ ops.size → (A k).t.get d = (A 0).t.get d := by
          intro k
          induction k with
          | zero => exact fun _ => rfl
          | succ k ih =>
            intro hk'
            rw [get_step T hsm hk', if_neg fun h => hlt h.2]
            exact ih (by omega)
        have h2 := R.oks d
        rw [hz _ (wr_le _ _)] at h2
        rw [hz j (Nat.le_of_lt hj)]
        have hw0 : wr ops L ops.size d = 0 := wr_skip (j := 0) ops.size (Nat.zero_le _) (fun m _ _ h3 => by
          cases hwm : writesTmp ops m d with
          | false => rfl
          | true =>
            rw [huniq d hd1 m hwm, hL] at h3
            cases h3)
        rw [hw0] at h2
        exact ok_ext (Ext.trans (hup 0) (cut_mono (next_mono st (Nat.zero_le _) hj) (nextC_mono st (Nat.zero_le _) hj))) _ h2
    | false =>
      have hwr : wr ops (upd L j) ops.size t = wr ops L ops.size t := by
        refine wr_congr _ fun m _ hm => ?_
        have hne : m ≠ j := fun e => by rw [e, hw] at hm; cases hm
        cases hLm : L m with
        | true => exact upd_iff.2 (.inr hLm)
        | false =>
          cases hu : upd L j m with
          | false => rfl
          | true =>
            rcases upd_iff.1 hu with h | h
            · exact absurd h hne
            · rw [hLm] at h; cases h
      rw [hwr]
      exact ok_ext (hup _) _ (R.oks t)
  ·
    intro b hb hn
    rw [hk.frame b (Nat.lt_of_lt_of_le hb R.size) ?_, R.frame b hb hn]
    intro i hi e
    have e' := cut_ext.blk i b e
    obtain ⟨q, hq, hro⟩ := hk.live i hi
    obtain ⟨_, hq2, _⟩ := seen_ver T st hwf R hj ho hL hready (by rw [e']; rfl) (hWhas i hi) hq
    rcases R.orig i q b hq2 e' with h | ⟨i', p', h1, h2, h3, h4⟩
    · omega
    · refine hn i' ?_ h2
      rcases h4 with rfl | h4
      · exact ⟨Nat.le_trans hlow (hk.wlow i hi), p', h1, h3.trans hro⟩
      · exact h4
  ·
    intro i p b hp hb
    cases ht : touch S F j i with
    | true =>
      rw [hyes i ht] at hp
      rcases hk.orig i p b hp (hblk2 i ht b hb) with h | ⟨i', p', h1, h2, h3, h4⟩
      · exact .inl (Nat.le_trans R.size h)
      · have h2' := cut_ext.blk i' b h2
        have hhas : (F j).has i' := by
          rcases h4 with rfl | h4
          · rcases touch_iff.1 ht with h | ⟨h, _⟩
            · have : i < (S j).next := hwfj.lt i p' h1
              omega
            · revert h
              cases F j with
              | part rs ws mk => exact fun h => .inr h
              | all x => exact fun _ => trivial
          · exact hWhas i' h4
        obtain ⟨_, hq2, _⟩ := seen_ver T st hwf R hj ho hL hready (by rw [h2']; rfl) hhas h1
        rcases R.orig i' p' b hq2 h2' with h5 | ⟨i'', p'', h5, h6, h7, h8⟩
        · exact .inl h5
        · refine .inr ⟨i'', p'', h5, h6, h7.trans h3, ?_⟩
          rcases h4 with rfl | h4
          · exact h8
          · rcases h8 with rfl | h8
            · obtain ⟨q, hq, hro⟩ := hk.live i' h4
              rw [h1] at hq
              injection hq with hq
              exact .inr ⟨Nat.le_trans hlow (hk.wlow i' h4), p'', h5, by rw [h7, hq, hro]⟩
            · exact .inr h8
    | false =>
      rw [hnotl i ht] at hp
      exact R.orig i p b hp (hblkN i ht b hb)
  ·
    intro m hm i h1 h2
    rcases upd_iff.1 hm with rfl | hm
    · have hhas : (F m).has i := by
        revert h1
        cases F m with
        | part rs ws mk => exact fun h => .inr h
        | all x => exact fun _ => trivial
      exact hext.isSomeB (hits_lt T st hwf hsm hglob R hj ho hL hready hhas h2).2
    · exact hext.isSomeB (hnamed m hm i h1 h2)
end
end
end Go.Sym
namespace Go.Sym
open Go
noncomputable section
set_option maxRecDepth 20000
theorem ver_none {S : Nat → St} {F : Nat → FP} {L : Nat → Bool} {n i : Nat} (h : ∀ m, L m = false) : ver S F L n i = 0 :=
  ver_skip (j := 0) n (Nat.zero_le _) fun m _ _ hm => by rw [h m] at hm; cases hm
theorem wr_none {ops : Array Oper} {L : Nat → Bool} {n t : Nat} (h : ∀ m, L m = false) : wr ops L n t = 0 :=
  wr_skip (j := 0) n (Nat.zero_le _) fun m _ _ hm => by rw [h m] at hm; cases hm
def lst (listed : Array Bool) : Nat → Bool := fun m => listed.getD m false
theorem lst_set {listed : Array Bool} {j : Nat} (hj : j < listed.size) : lst (listed.setIfInBounds j true) = upd (lst listed) j := by
  funext m
  unfold lst upd
  simp only [Array.getD_eq_getD_getElem?, Array.getElem?_setIfInBounds]
  by_cases e : j = m
  · subst e
    simp [hj]
  · have : Nat.beq m j = false := by
      cases hb : Nat.beq m j
      · rfl
      · exact absurd (Nat.eq_of_beq_eq_true hb).symm e
    rw [if_neg e, this]
    rfl
theorem count_set {listed : Array Bool} {j fuel : Nat} (hj : j < listed.size) (hf : listed.getD j false = false) (hc : listed.toList.count false = fuel + 1) :
    (listed.setIfInBounds j true).toList.count false = fuel := by
  have hget : listed[j] = false := by simpa [Array.getD_eq_getD_getElem?, hj] using hf
  rw [Array.toList_setIfInBounds, List.count_set (by simpa using hj)]
  simp [hget, hc]
section
variable {cx : Ctx} {ops : Array Oper} {A : Nat → Fr} {S : Nat → St} {V : Nat → Value} {F : Nat → FP} (T : Trace cx ops A S V F)
  {η0 : Env} {w0 : World} {act0 : Act} (hwf0 : WF (vw cx (S 0))) (hd0 : Den cx.P Every (vw cx (S 0)) η0 w0) (hf0 : FrOk (A 0) η0 act0)
  {Q : Exit → Act → World → Prop}
  (hQ : ∀ η' w' act', FrOk (A ops.size) η' act' → WF (vw cx (S ops.size)) → Kept (vw cx (S 0)) η0 w0 (vw cx (S ops.size)) η' w' (coarse (vw cx (S 0)) (vw cx (S ops.size))) →
    Den cx.P Every (vw cx (S ops.size)) η' w' → Q .normal act' w')
include T hwf0 hd0 hf0
theorem stats : (∀ j, j < ops.size → ∃ W, Stat cx (S j) (S (j + 1)) (F j) W) ∧ ∀ k, k ≤ ops.size → WF (vw cx (S k)) := by
  refine ⟨fun j hj => ?_, fun k hk => ?_⟩
  · obtain ⟨_, _, _, _, _, _, h⟩ := index_run T hwf0 hd0 hf0 ops.size (Nat.le_refl _)
    exact h j hj
  · obtain ⟨_, _, _, h, _⟩ := index_run T hwf0 hd0 hf0 k hk
    exact h
theorem glob0 : ∀ g, g < cx.P.globals.size → η0.blk g = some g ∧ g < (S 0).next := by
  intro g hg
  have h := hd0.glob g hg
  refine ⟨h, ?_⟩
  rcases Nat.lt_or_ge g (S 0).next with hlt | hge
  · exact hlt
  · rw [hd0.dom g hge] at h
    cases h
theorem rinv_start {L : Nat → Bool} (hL : ∀ m, L m = false) : RInv cx ops A S F η0 w0 L act0 η0 w0.drew := by
  obtain ⟨st, hwf⟩ := stats T hwf0 hd0 hf0
  have hcut : Ext η0 (cutAt S η0 0) := by
    refine ⟨fun i b hb => ?_, fun i b hb => ?_⟩
    · show (if i < (S 0).next then η0.blk i else none) = some b
      rw [if_pos, hb]
      rcases Nat.lt_or_ge i (S 0).next with hlt | hge
      · exact hlt
      · rw [hd0.dom i hge] at hb
        cases hb
    · show (if i < (S 0).nextC then η0.cap i else none) = some b
      rw [if_pos, hb]
      rcases Nat.lt_or_ge i (S 0).nextC with hlt | hge
      · exact hlt
      · rw [hd0.domC i hge] at hb
        cases hb
  have hv : ∀ i, ver S F L ops.size i = 0 := fun i => ver_none hL
  have hw : ∀ t, wr ops L ops.size t = 0 := fun t => wr_none hL
  have hdr : Den cx.P Every (vw cx (S 0)) η0 w0.drew := hd0.grow fun k _ => rfl
  exact
    { shut := fun j _ h => by
        have h' : L j = true := h
        rw [hL j] at h'
        cases h'
      below := fun j h => by rw [hL j] at h; cases h
      old := fun _ _ => rfl, oldC := fun _ _ => rfl
      dom := fun i hi => .inl (by
        rcases Nat.lt_or_ge i (S 0).next with hlt | hge
        · exact hlt
        · rw [hd0.dom i hge] at hi
          cases hi)
      domC := fun i hi => .inl (by
        rcases Nat.lt_or_ge i (S 0).nextC with hlt | hge
        · exact hlt
        · rw [hd0.domC i hge] at hi
          cases hi)
      obj := fun i o b hb ho => by
        rw [hv i] at ho ⊢
        obtain ⟨h1, h2⟩ := hdr.obj i o b trivial ho hb
        exact ⟨fun x hx => ok_ext hcut x (h1 x hx), SObj.den_keep hcut h1 rfl h2⟩
      inj := fun i j o p b ho hp ei ej => by
        rw [hv i] at ho
        rw [hv j] at hp
        exact hd0.inj i j o p b trivial trivial ho hp ei ej
      caps := fun k lo c hk hc => by
        rcases Nat.lt_or_ge k (S 0).nextC with hlt | hge
        · rw [caps_same st (Nat.zero_le _) (Nat.le_refl _) hlt] at hk
          exact hd0.caps k lo c hk hc
        · rw [hd0.domC k hge] at hc
          cases hc
      defers := hf0.defers, asize := hf0.size
      val := fun t => by rw [hw t]; exact hf0.val t
      oks := fun t => by rw [hw t]; exact ok_ext hcut _ (hf0.oks t)
      os := rfl, tape := rfl, output := rfl, size := Nat.le_refl _
      frame := fun _ _ _ => rfl
      orig := fun i o b ho hb => by
        rw [hv i] at ho
        exact .inr ⟨i, o, ho, hb, rfl, .inl rfl⟩ }
include hQ in
theorem rinv_end {L : Nat → Bool} {act : Act} {η : Env} {w : World} (R : RInv cx ops A S F η0 w0 L act η w) (hall : ∀ m, m < ops.size → L m = true) : Q .normal act w := by
  obtain ⟨st, hwf⟩ := stats T hwf0 hd0 hf0
  have hglob := glob0 T hwf0 hd0 hf0
  have h0n := next_mono st (Nat.zero_le _) (Nat.le_refl ops.size)
  have h0nC := nextC_mono st (Nat.zero_le _) (Nat.le_refl ops.size)
  have hdom : ∀ i, (S ops.size).next ≤ i → η.blk i = none := by
    intro i hi
    cases hb : η.blk i with
    | none => rfl
    | some b =>
      rcases R.dom i (by rw [hb]; rfl) with h | ⟨k, hk, h1, h2⟩
      · omega
      · have := next_mono st (j := k + 1) (R.below k hk) (Nat.le_refl ops.size)
        omega
  have hdomC : ∀ i, (S ops.size).nextC ≤ i → η.cap i = none := by
    intro i hi
    cases hb : η.cap i with
    | none => rfl
    | some b =>
      rcases R.domC i (by rw [hb]; rfl) with h | ⟨k, hk, h1, h2⟩
      · omega
      · have := nextC_mono st (j := k + 1) (R.below k hk) (Nat.le_refl ops.size)
        omega
  have hlook : ∀ i, look cx (S ops.size) i = look cx (S (ver S F L ops.size i)) i := fun i => look_ver st hwf ops.size (Nat.le_refl _) fun m hm _ => hall m hm
  have hden : Den cx.P Every (vw cx (S ops.size)) η w :=
    { glob := fun g hg => by rw [R.old g (hglob g hg).2, (hglob g hg).1]
      obj := fun i o b _ ho hb => by
        have ho' : look cx (S (ver S F L ops.size i)) i = some o := by rw [← hlook]; exact ho
        obtain ⟨h1, h2⟩ := R.obj i o b hb ho'
        exact ⟨fun x hx => ok_ext cut_ext x (h1 x hx), SObj.den_keep cut_ext h1 rfl h2⟩
      inj := fun i j o p b _ _ ho hp ei ej => R.inj i j o p b (by rw [← hlook]; exact ho) (by rw [← hlook]; exact hp) ei ej
      caps := R.caps
      dom := hdom, domC := hdomC }
  have hext : Ext η0 η := by
    refine ⟨fun i b hb => ?_, fun i b hb => ?_⟩
    · rcases Nat.lt_or_ge i (S 0).next with hlt | hge
      · rw [R.old i hlt, hb]
      · rw [hd0.dom i hge] at hb
        cases hb
    · rcases Nat.lt_or_ge i (S 0).nextC with hlt | hge
      · rw [R.oldC i hlt, hb]
      · rw [hd0.domC i hge] at hb
        cases hb
  have hsame : ∀ i, i < (S 0).next → ¬ coarse (vw cx (S 0)) (vw cx (S ops.size)) i → ∀ k, k ≤ ops.size → look cx (S k) i = look cx (S 0) i := by
    intro i hi hn k
    induction k with
    | zero => exact fun _ => rfl
    | succ k ih =>
      intro hk
      have ih := ih (by omega)
      obtain ⟨W, hs⟩ := st k hk
      have hm := next_mono st (Nat.zero_le k) (by omega)
      rw [hs.same i (by omega) ?_, ih]
      intro hW
      obtain ⟨o, ho, hro⟩ := hs.live i hW
      rw [ih] at ho
      exact hn ⟨Nat.le_trans (low_anti st hk (Nat.le_refl _)) (hs.wlow i hW), o, ho, hro⟩
  refine hQ η w act ?_ (hwf _ (Nat.le_refl _)) ?_ hden
  · have hg : ∀ t, (A ops.size).t.get t = (A (wr ops L ops.size t)).t.get t := fun t => get_wr T hf0.small ops.size (Nat.le_refl _) fun m hm _ => hall m hm
    exact
      { defers := R.defers
        size := by rw [R.asize, A_n T (Nat.le_refl _)]
        small := by rw [A_n T (Nat.le_refl _)]; exact hf0.small
        val := fun t => by rw [R.val t, hg t]
        oks := fun t => by rw [hg t]; exact ok_ext cut_ext _ (R.oks t) }
  · exact
      { ext := hext
        only := fun i hi => by
          change i < (S 0).next ∨ (S ops.size).next ≤ i at hi
          rcases hi with hi | hi
          · exact R.old i hi
          · rw [hdom i hi, hd0.dom i (Nat.le_trans h0n hi)]
        onlyC := fun i hi => by
          change i < (S 0).nextC ∨ (S ops.size).nextC ≤ i at hi
          rcases hi with hi | hi
          · exact R.oldC i hi
          · rw [hdomC i hi, hd0.domC i (Nat.le_trans h0nC hi)]
        next := h0n, nextC := h0nC
        low := low_anti st (Nat.zero_le _) (Nat.le_refl _)
        wlow := fun i hi => hi.1, live := fun i hi => hi.2
        os := R.os, tape := R.tape, output := R.output, size := R.size, frame := R.frame
        same := fun i hi hn => hsame i hi hn ops.size (Nat.le_refl _)
        sameC := fun i hi => caps_same st (Nat.zero_le _) (Nat.le_refl _) hi
        orig := fun i o b ho hb => R.orig i o b (by rw [← hlook]; exact ho) hb }
include hQ in
theorem any_law : ∀ (fuel : Nat) (listed : Array Bool) (act : Act) (η : Env) (w : World), listed.size = ops.size → listed.toList.count false = fuel →
    RInv cx ops A S F η0 w0 (lst listed) act η w → (∀ m, lst listed m = true → ∀ i, (F m).hits i → (∀ x, F m ≠ .all x) → (η.blk i).isSome) →
    wpAny cx.P .any ops Q fuel listed act w := by
  obtain ⟨st, hwf⟩ := stats T hwf0 hd0 hf0
  have hglob := glob0 T hwf0 hd0 hf0
  have hdone : ∀ (listed : Array Bool), listed.size = ops.size → Region.ready .any ops listed = [] → ∀ m, m < ops.size → lst listed m = true := by
    intro listed hsz hr m
    induction m using Nat.strongRecOn with
    | _ m ih =>
      intro hm
      cases hl : lst listed m with
      | true => rfl
      | false =>
        have hom : ops[m]? = some ops[m] := by simp [hm]
        have : m ∈ Region.ready .any ops listed := by
          rw [mem_ready]
          refine ⟨?_, ops[m], hom, fun e he hb => ?_⟩
          · unfold lst at hl
            have hm' : m < listed.size := by rw [hsz]; exact hm
            simpa [Array.getD_eq_getD_getElem?, hm'] using hl
          · have hlt := T.back m _ hom e he hb
            exact ih e.on hlt (by omega)
        rw [hr] at this
        cases this
  intro fuel
  induction fuel with
  | zero =>
    intro listed act η w hsz hc R hn
    have hr : Region.ready .any ops listed = [] := by
      cases hr : Region.ready .any ops listed with
      | nil => rfl
      | cons j l =>
        have hj : j ∈ Region.ready .any ops listed := by rw [hr]; simp
        obtain ⟨h0, o, ho, _⟩ := mem_ready.1 hj
        have hjn : j < ops.size := (Array.getElem?_eq_some_iff.1 ho).1
        have hm' : j < listed.size := by rw [hsz]; exact hjn
        have hget : listed[j] = false := by simpa [Array.getD_eq_getD_getElem?, hm'] using h0
        have : false ∈ listed.toList := by
          rw [← hget]
          simp
        rw [List.count_eq_zero] at hc
        exact absurd this hc
    exact ⟨hr, rinv_end T hwf0 hd0 hf0 hQ R (hdone listed hsz hr)⟩
  | succ fuel ih =>
    intro listed act η w hsz hc R hn
    refine ⟨fun hr => rinv_end T hwf0 hd0 hf0 hQ R (hdone listed hsz hr), fun j hj => ?_⟩
    obtain ⟨h0, o, ho, hready⟩ := mem_ready.1 hj
    have hjn : j < ops.size := (Array.getElem?_eq_some_iff.1 ho).1
    have hm' : j < listed.size := by rw [hsz]; exact hjn
    have hL : lst listed j = false := by
      unfold lst
      simpa [Array.getD_eq_getD_getElem?, hm'] using h0
    have hwant := wanted_ok T st hwf R hjn ho hL hready hf0.small
    have hden := den_at T st hwf R hjn ho hL hready hglob
    have next : ∀ η' w' W, (F j).writes W → Kept (vw cx (S j)) (cutAt S η j) w (vw cx (S (j + 1))) η' w' W →
        Den cx.P (fun i => (F j).has i ∨ (S j).next ≤ i) (vw cx (S (j + 1))) η' w' → ok η' (V j) →
        wpAny cx.P .any ops Q fuel (listed.setIfInBounds j true) (act.put o.dst (ren η' (V j))) w' := by
      intro η' w' W h1 h2 h3 h4
      obtain ⟨R', hn'⟩ := rinv_step T st hwf hf0.small hglob R hjn ho hL hready hn h1 h2 h3 h4
      rw [← lst_set hm'] at R' hn'
      exact ih _ _ _ _ (by simp [hsz]) (count_set hm' hL hc) R' hn'
    unfold wpOp
    simp only [ho]
    rcases T.spec j o ho with ⟨hw, hv, hS, hF⟩ | ⟨hw, hs⟩
    · rw [hwant, hw]
      simp only [Bool.false_eq_true, if_false]
      have := next (cutAt S η j) w (fun _ => False) (by rw [hF]; exact fun _ h => h.elim) (by rw [hS]; exact Kept.refl _ _ _) (by rw [hS]; exact hden.widen) (by rw [hv]; exact ok_undef _)
      rw [hv] at this
      exact this
    · rw [hwant, hw]
      simp only [if_true]
      refine .inl (hs _ (cutAt S η j) w act _ _ (hwf j (Nat.le_of_lt hjn)) hden ?_ (fun x hx => operand_ok T st hwf R hjn ho hL hready hf0.small hglob hx) (fun η' w' W g1 g2 g3 g4 g5 g6 => next η' w' W g1 g4 g5 g6))
      cases F j with
      | part rs ws m => exact ⟨fun i hi => .inl hi, fun i hi => .inr hi⟩
      | all x => exact fun _ => trivial
include hQ in
theorem region_law (hm : cx.P.follows .mixedOrders = true) (id : Nat) : (Code.region id ops true).wp cx.P Q act0 w0 := by
  refine wp_region_any hm ?_
  have hL : ∀ m, lst (Array.replicate ops.size false) m = false := by
    intro m
    unfold lst
    simp only [Array.getD_eq_getD_getElem?, Array.getElem?_replicate]
    split <;> rfl
  refine any_law T hwf0 hd0 hf0 hQ ops.size _ _ η0 _ (by simp) (by simp) (rinv_start T hwf0 hd0 hf0 hL) ?_
  intro m h
  rw [hL m] at h
  cases h
end
end
end Go.Sym
namespace Go.Sym
open Go
noncomputable section
set_option maxRecDepth 20000
theorem eqA_eq : ∀ a b : Addr, eqA a b = true → a = b
  | ⟨a, i, s⟩, ⟨b, j, t⟩, h => by
    simp only [eqA, Bool.and_eq_true] at h
    obtain ⟨⟨⟨h1, h2⟩, h3⟩, h4⟩ := h
    have h1 := Nat.eq_of_beq_eq_true h1
    have h2 := Nat.eq_of_beq_eq_true h2
    have h3 : s = none := by simpa using h3
    have h4 : t = none := by simpa using h4
    rw [h1, h2, h3, h4]
theorem eqO_eq : ∀ a b : Option Addr, eqO a b = true → a = b
  | none, none, _ => rfl
  | some a, some b, h => by rw [eqA_eq a b h]
  | none, some _, h => by simp [eqO] at h
  | some _, none, h => by simp [eqO] at h
mutual
theorem eqV_eq : ∀ a b : Value, eqV a b = true → a = b
  | .bool a, b, h => by
    cases b with
    | bool c =>
      simp only [eqV, beq_iff_eq] at h
      rw [h]
    | _ => simp [eqV] at h
  | .int k n, b, h => by
    cases b with
    | int l m =>
      simp only [eqV, Bool.and_eq_true, decide_eq_true_eq] at h
      rw [h.1, h.2]
    | _ => simp [eqV] at h
  | .string s, b, h => by
    cases b with
    | string t =>
      simp only [eqV, decide_eq_true_eq] at h
      have : s = t := ByteArray.ext (Array.ext' h)
      rw [this]
    | _ => simp [eqV] at h
  | .pointer a, b, h => by
    cases b with
    | pointer c =>
      simp only [eqV] at h
      rw [eqO_eq a c h]
    | _ => simp [eqV] at h
  | .slice a m c, b, h => by
    cases b with
    | slice a' n d =>
      simp only [eqV, Bool.and_eq_true] at h
      rw [eqO_eq a a' h.1.1, Nat.eq_of_beq_eq_true h.1.2, Nat.eq_of_beq_eq_true h.2]
    | _ => simp [eqV] at h
  | .nilFunc, b, h => by
    cases b with
    | nilFunc => rfl
    | _ => simp [eqV] at h
  | .nilIface, b, h => by
    cases b with
    | nilIface => rfl
    | _ => simp [eqV] at h
  | .agg a, b, h => by
    cases b with
    | agg c =>
      simp only [eqV] at h
      rw [eqVA_eq a c h]
    | _ => simp [eqV] at h
  | .tuple a, b, h => by
    cases b with
    | tuple c =>
      simp only [eqV] at h
      rw [eqVA_eq a c h]
    | _ => simp [eqV] at h
  | .float _ _, b, h => by cases b <;> simp [eqV] at h
  | .complex _ _ _, b, h => by cases b <;> simp [eqV] at h
  | .map _, b, h => by cases b <;> simp [eqV] at h
  | .chan _, b, h => by cases b <;> simp [eqV] at h
  | .func _ _ _, b, h => by cases b <;> simp [eqV] at h
  | .iface _ _, b, h => by cases b <;> simp [eqV] at h
theorem eqVA_eq : ∀ a b : Array Value, eqVA a b = true → a = b
  | ⟨a⟩, ⟨b⟩, h => by
    simp only [eqVA] at h
    rw [eqVL_eq a b h]
theorem eqVL_eq : ∀ a b : List Value, eqVL a b = true → a = b
  | [], [], _ => rfl
  | [], _ :: _, h => by simp [eqVL] at h
  | _ :: _, [], h => by simp [eqVL] at h
  | a :: x, b :: y, h => by
    simp only [eqVL, Bool.and_eq_true] at h
    rw [eqV_eq a b h.1, eqVL_eq x y h.2]
end
theorem eqObj_eq : ∀ a b : SObj, eqObj a b = true → a = b
  | .row a e, .row b f, h => by
    simp only [eqObj, Bool.and_eq_true] at h
    rw [Nat.eq_of_beq_eq_true h.1, eqVL_eq a b h.2]
  | .opn a e s c, .opn b f t d, h => by
    simp only [eqObj, Bool.and_eq_true] at h
    rw [Nat.eq_of_beq_eq_true h.1.1.1, Nat.eq_of_beq_eq_true h.1.1.2, Nat.eq_of_beq_eq_true h.1.2, eqVL_eq a b h.2]
  | .ro a, .ro b, h => by
    simp only [eqObj] at h
    rw [eqVL_eq a b h]
  | .row _ _, .opn _ _ _ _, h | .row _ _, .ro _, h | .opn _ _ _ _, .row _ _, h | .opn _ _ _ _, .ro _, h | .ro _, .row _ _, h | .ro _, .opn _ _ _ _, h => by simp [eqObj] at h
structure Grown (w w' : World) : Prop where
  os : w'.os = w.os
  tape : w'.tape = w.tape
  output : w'.output = w.output
  size : w.heap.size ≤ w'.heap.size
  heap : ∀ k, k < w.heap.size → w'.heap[k]? = w.heap[k]?
def Knows (P : Program) (rows : Tr SObj) (f : FuncId) (e : Known) : Prop :=
  plain e.val = true ∧ ∀ η w, (∀ g, g < P.globals.size → η.blk g = some g) →
    (∀ p ∈ e.rows, ∀ o b, rows.get p.2 = some o → η.blk p.1 = some b → (∀ x ∈ o.cells, ok η x) ∧ o.den η w b) →
    (∀ p ∈ e.rows, ∀ q ∈ e.rows, ∀ o o' b, rows.get p.2 = some o → rows.get q.2 = some o' → η.blk p.1 = some b → η.blk q.1 = some b → p.1 = q.1) →
    (∀ p ∈ e.caps, ∀ c, η.cap p.1 = some c → p.2 ≤ c ∧ c < capBase) → (∀ v ∈ e.args, ok η v) →
    Calls P f (e.args.map (ren η)).toArray w fun en w' => en = .returned e.val ∧ Grown w w'
def KnownOk (cx : Ctx) : Prop := ∀ f l, cx.known.get f = some l → ∀ e ∈ l, Knows cx.P cx.rows f e
theorem holdsRow_sound {cx : Ctx} {σ σ' : St} {i k : Nat} (hwf : WF (vw cx σ)) (h : holdsRow cx σ i k = some σ') :
    vw cx σ' = vw cx σ ∧ look cx σ i = cx.rows.get k := by
  unfold holdsRow at h
  split at h
  · rename_i l hm
    cases hb : Nat.beq k l with
    | false => simp [hb] at h
    | true =>
      simp only [hb, cond_true, Option.some.injEq] at h
      subst h
      have hk := Nat.eq_of_beq_eq_true hb
      subst hk
      exact ⟨rfl, by unfold look; rw [hm]; rfl⟩
  · rename_i o hm
    split at h
    · rename_i p hp
      cases hb : eqObj o p with
      | false => simp [hb] at h
      | true =>
        simp only [hb, cond_true, Option.some.injEq] at h
        subst h
        have ho := eqObj_eq o p hb
        subst ho
        have hl : look cx σ i = some o := by unfold look; rw [hm]; rfl
        refine ⟨?_, by rw [hl, hp]⟩
        have : look cx { σ with mem := σ.mem.set i (some (.ref k)) } = look cx σ := by
          funext j
          show ((σ.mem.set i (some (.ref k))).get j).bind (refOf cx) = (σ.mem.get j).bind (refOf cx)
          rw [Tr.get_set]
          by_cases e : j = i
          · subst e
            rw [if_pos rfl, hm]
            exact hp
          · rw [if_neg e]
        unfold vw
        rw [this]
    · cases h
  · cases h
theorem holdRows_sound {cx : Ctx} : ∀ (l : List (Nat × Nat)) (σ σ' : St), WF (vw cx σ) → holdRows cx l σ = some σ' →
    vw cx σ' = vw cx σ ∧ ∀ p ∈ l, look cx σ p.1 = cx.rows.get p.2
  | [], σ, σ', _, h => by
    simp only [holdRows, Option.some.injEq] at h
    subst h
    exact ⟨rfl, by simp⟩
  | (i, k) :: r, σ, σ', hwf, h => by
    simp only [holdRows, Option.bind_eq_some_iff] at h
    obtain ⟨σ1, h1, h2⟩ := h
    obtain ⟨e1, ho⟩ := holdsRow_sound hwf h1
    obtain ⟨e2, h3⟩ := holdRows_sound r σ1 σ' (by rw [e1]; exact hwf) h2
    refine ⟨e2.trans e1, fun p hp => ?_⟩
    rcases List.mem_cons.1 hp with rfl | hp
    · exact ho
    · have : look cx σ1 = look cx σ := congrArg Vw.M e1
      rw [← this]
      exact h3 p hp
theorem holdCaps_sound : ∀ (l : List (Nat × Nat)) (σ : St), holdCaps l σ = true → ∀ p ∈ l, ∃ lo, σ.caps.get p.1 = some lo ∧ p.2 ≤ lo
  | [], _, _ => by simp
  | (c, lo) :: r, σ, h => by
    simp only [holdCaps, Bool.and_eq_true] at h
    intro p hp
    rcases List.mem_cons.1 hp with rfl | hp
    · cases hc : σ.caps.get c with
      | none => simp [hc] at h
      | some l =>
        simp only [hc] at h
        exact ⟨l, rfl, Nat.le_of_ble_eq_true h.1⟩
    · exact holdCaps_sound r σ h.2 p hp
end
end Go.Sym
namespace Go.Sym
open Go
noncomputable section
set_option maxRecDepth 20000
structure CtxOk (cx : Ctx) : Prop where
  ty : TysOk cx
  fn : FnsOk cx
  mixed : cx.P.follows .mixedOrders = true
  known : KnownOk cx
theorem Den.setLow {P : Program} {D : Nat → Prop} {v : Vw} {η : Env} {w : World} (h : Den P D v η w) (a : Nat) : Den P D { v with low := a } η w :=
  ⟨h.glob, h.obj, h.inj, h.caps, h.dom, h.domC⟩
theorem WF.setLow {v : Vw} (h : WF v) (a : Nat) : WF { v with low := a } := ⟨h.lt, h.caps⟩
def exitOf : SExit → Exit
  | .normal => .normal
  | .exit id => .exit id
  | .ret => .ret
def After (cx : Ctx) (σ : St) (η : Env) (w : World) (out : Out) (Q : Exit → Act → World → Prop) : Prop :=
  ∀ η' w' act', FrOk out.a η' act' → WF (vw cx out.σ) → Kept (vw cx σ) η w (vw cx out.σ) η' w' (coarse (vw cx σ) (vw cx out.σ)) → Den cx.P Every (vw cx out.σ) η' w' → Q (exitOf out.ex) act' w'
def LoopWp (P : Program) (c : Code) (Q : Exit → Act → World → Prop) (a : Act) (w : World) : Prop :=
  ∀ (b : Frame) (k : List Item) (cs : List Frame), ∃ e a' w', Q e a' w' ∧ Arrives P (lone (b.at a (.code c :: .inLoop c :: k)) cs w) b k cs e a' w'
theorem wp_of_loopWp {P : Program} {c : Code} {Q : Exit → Act → World → Prop} {a : Act} {w : World} (h : LoopWp P c Q a w) : (Code.loop c).wp P Q a w := by
  intro b k cs
  obtain ⟨e, a', w', hq, harr⟩ := h b k cs
  exact ⟨e, a', w', hq, .of_steps (.one step_loop) harr⟩
theorem loopWp_of {P : Program} {c : Code} {Q : Exit → Act → World → Prop} {a : Act} {w : World} (h : c.wp P (Exit.then (LoopWp P c Q) Q) a w) : LoopWp P c Q a w := by
  intro b k cs
  obtain ⟨e, a₁, w₁, hq, harr⟩ := h b (.inLoop c :: k) cs
  cases e with
  | normal =>
    obtain ⟨e₂, a₂, w₂, hq₂, harr₂⟩ := hq b k cs
    exact ⟨e₂, a₂, w₂, hq₂, .of_steps (Steps.trans harr (.one step_inLoop)) harr₂⟩
  | exit id => exact ⟨_, a₁, w₁, hq, .pass (x := .inLoop c) rfl (fun _ _ => .inl (by simp)) harr⟩
  | goto l => exact ⟨_, a₁, w₁, hq, .pass (x := .inLoop c) rfl (fun _ _ => .inl (by simp)) harr⟩
  | ret => exact ⟨_, a₁, w₁, hq, .pass (x := .inLoop c) rfl (fun _ _ => .inl (by simp)) harr⟩
  | panic ch => exact ⟨_, a₁, w₁, hq, .pass (x := .inLoop c) rfl (fun _ _ => .inl (by simp)) harr⟩
  | outgrown => exact ⟨_, a₁, w₁, hq, .pass (x := .inLoop c) rfl (fun _ _ => .inl (by simp)) harr⟩
def CallOk (cx : Ctx) (rc : Rec) : Prop :=
  ∀ f args a σ out, rc (.call f args) a σ = some out → ∀ η w, WF (vw cx σ) → Den cx.P Every (vw cx σ) η w → (∀ x ∈ args, ok η x) →
    Calls cx.P f (args.map (ren η)).toArray w fun e w' => ∃ η' v, e = .returned (ren η' v) ∧ out.a.t.get 0 = some v ∧ ok η' v ∧ WF (vw cx out.σ) ∧
      Kept (vw cx σ) η w (vw cx out.σ) η' w' (coarse (vw cx σ) (vw cx out.σ)) ∧ Den cx.P Every (vw cx out.σ) η' w'
def CodeOk (cx : Ctx) (rc : Rec) : Prop :=
  ∀ c a σ out, codeOk cx.P.globals.size c = true → rc (.code c) a σ = some out → ∀ η w act Q, WF (vw cx σ) → Den cx.P Every (vw cx σ) η w → FrOk a η act → After cx σ η w out Q → c.wp cx.P Q act w
def AgainOk (cx : Ctx) (rc : Rec) : Prop :=
  ∀ c a σ out, codeOk cx.P.globals.size c = true → rc (.again c) a σ = some out → ∀ η w act Q, WF (vw cx σ) → Den cx.P Every (vw cx σ) η w → FrOk a η act → After cx σ η w out Q → LoopWp cx.P c Q act w
def OpsOk (cx : Ctx) (rc : Rec) : Prop :=
  ∀ all i fs l a σ out, (∀ o ∈ all, operOk' cx.P.globals.size o = true) → l = all.toList.drop i → i ≤ all.size → rc (.ops false all i fs l) a σ = some out →
    ∀ η w act Q, WF (vw cx σ) → Den cx.P Every (vw cx σ) η w → FrOk a η act → After cx σ η w out Q → wpOps cx.P all Q (List.range' i (all.size - i)) act w
structure Found (cx : Ctx) (all : Array Oper) (i : Nat) (fs : List (Nat × FP)) (A : Nat → Fr) (S : Nat → St) (V : Nat → Value) (F : Nat → FP) : Prop where
  spec : ∀ (m : Nat) (o : Oper), i ≤ m → all[m]? = some o → OpSpec cx all (A m) (S m) o (V m) (S (m + 1)) (F m)
  put : ∀ (m : Nat) (o : Oper), i ≤ m → all[m]? = some o → A (m + 1) = (A m).put o.dst (V m)
  names : ∀ (m : Nat) (o : Oper), i ≤ m → all[m]? = some o → ∀ (rs ws : List Nat) (mk : Bool), F m = .part rs ws mk → ∀ k, (k ∈ rs ∨ k ∈ ws) → ∃ x ∈ o.op.operands, k ∈ blockOf ((A m).eval x)
  conf : ∀ m, i ≤ m → m < all.size → (∀ p ∈ fs, (F m).conflict p.2 = true → ((Region.before all).getD m 0).testBit p.1 = true) ∧
    ∀ j, i ≤ j → j < m → (F m).conflict (F j) = true → ((Region.before all).getD m 0).testBit j = true
def DrawOk (cx : Ctx) (rc : Rec) : Prop :=
  ∀ all i fs l a σ out, (∀ o ∈ all, operOk' cx.P.globals.size o = true) → l = all.toList.drop i → i ≤ all.size → rc (.ops true all i fs l) a σ = some out →
    ∃ A S V F, A i = a ∧ S i = σ ∧ A all.size = out.a ∧ S all.size = out.σ ∧ out.ex = .normal ∧ Found cx all i fs A S V F
theorem fpOf_names {a : Fr} {next low : Nat} {o : Oper} {rs ws : List Nat} {mk : Bool} (h : fpOf a next low o = .part rs ws mk) {k : Nat} (hk : k ∈ rs ∨ k ∈ ws) :
    ∃ x ∈ o.op.operands, k ∈ blockOf (a.eval x) := by
  unfold fpOf at h
  split at h
  · rename_i t x ho
    injection h with h1 h2 h3
    subst h1 h2
    rw [ho]
    exact ⟨x, by simp [Op.operands], by simpa using hk⟩
  · rename_i t x y ho
    injection h with h1 h2 h3
    subst h1 h2
    rw [ho]
    exact ⟨x, by simp [Op.operands], by simpa using hk⟩
  · rename_i args ats ho
    split at h
    · rename_i s x l hl
      injection h with h1 h2 h3
      subst h1 h2
      rw [ho]
      have hs : s ∈ args := by rw [← Array.mem_toList_iff, hl]; simp
      have hx : x ∈ args := by rw [← Array.mem_toList_iff, hl]; simp
      have hsub : k ∈ blockOf (a.eval s) ∨ k ∈ blockOf (a.eval x) := by
        rcases hk with hk | hk
        · exact List.mem_append.1 hk
        · cases hb : Nat.blt low next with
          | true => rw [hb] at hk; exact .inl hk
          | false => rw [hb] at hk; cases hk
      rcases hsub with h | h
      · exact ⟨s, by simp [Op.operands, Call.operands, hs], h⟩
      · exact ⟨x, by simp [Op.operands, Call.operands, hx], h⟩
    · cases h
  · rename_i args ats ho
    split at h
    · rename_i d x l hl
      injection h with h1 h2 h3
      subst h1 h2
      rw [ho]
      have hd : d ∈ args := by rw [← Array.mem_toList_iff, hl]; simp
      have hx : x ∈ args := by rw [← Array.mem_toList_iff, hl]; simp
      rcases hk with h | h
      · exact ⟨x, by simp [Op.operands, Call.operands, hx], h⟩
      · exact ⟨d, by simp [Op.operands, Call.operands, hd], h⟩
    · cases h
  · cases h1 : isFree o.op with
    | true =>
      rw [h1, cond_true] at h
      injection h with h1 h2 h3
      subst h1 h2
      simp at hk
    | false =>
      rw [h1, cond_false] at h
      cases h2 : isMake o.op with
      | true =>
        rw [h2, cond_true] at h
        injection h with h1 h2 h3
        subst h1 h2
        simp at hk
      | false =>
        rw [h2, cond_false] at h
        cases h
theorem symOp_noSelect {cx : Ctx} {a : Fr} {σ : St} {o : Oper} {r : Res} (h : symOp cx a σ o = some r) : ∀ cs b, o.op ≠ .select cs b := by
  intro cs b e
  unfold symOp at h
  rw [e] at h
  cases h
theorem symOp_enter_call {cx : Ctx} {a : Fr} {σ : St} {o : Oper} {f : FuncId} {all : List Value} (h : symOp cx a σ o = some (.enter f all)) :
    ∃ c, o.op = .call c ∧ opCall cx a σ c o.type = some (.enter f all) := by
  obtain ⟨dst, op, type, pos, after, guard⟩ := o
  have hval : ∀ {m : Option Value}, val σ m ≠ some (.enter f all) := by
    intro m hm
    unfold val at hm
    split at hm <;> cases hm
  cases op with
  | call c => exact ⟨c, rfl, h⟩
  | build t ps => exact absurd h hval
  | binOp op t x y yt => exact absurd h hval
  | fieldAddr t x k => exact absurd h hval
  | field t x k => exact absurd h hval
  | indexAddr t x ix => exact absurd h hval
  | index t x ix => exact absurd h hval
  | pick c x y =>
    simp only [symOp] at h
    unfold opPick at h
    split at h <;> cases h
  | alloc e =>
    simp only [symOp, opAlloc, Option.bind_eq_bind, Option.bind_eq_some_iff] at h
    obtain ⟨_, _, _, _, ⟨_, _⟩, _, h⟩ := h
    cases h
  | box e x =>
    simp only [symOp, opBox, Option.bind_eq_bind, Option.bind_eq_some_iff] at h
    obtain ⟨⟨_, _⟩, _, h⟩ := h
    cases h
  | buildSlice t n ps =>
    simp only [symOp, opBuildSlice, Option.bind_eq_bind, Option.bind_eq_some_iff] at h
    obtain ⟨i, _, h⟩ := h
    split at h
    · simp only [Option.bind_eq_some_iff] at h
      obtain ⟨_, _, _, _, _, _, _, _, _, _, ⟨_, _⟩, _, h⟩ := h
      cases h
    · cases h
  | load t x =>
    simp only [symOp, opLoad, Option.bind_eq_bind, Option.bind_eq_some_iff] at h
    obtain ⟨_, _, _, _, h⟩ := h
    cases h
  | store t x y =>
    simp only [symOp, opStore, Option.bind_eq_bind, Option.bind_eq_some_iff] at h
    obtain ⟨_, _, _, _, h⟩ := h
    cases h
  | nilCheck x =>
    simp only [symOp] at h
    unfold opNilCheck at h
    split at h <;> cases h
  | unOp op t x =>
    simp only [symOp, opUn, Option.bind_eq_bind, Option.bind_eq_some_iff] at h
    obtain ⟨_, _, h⟩ := h
    exact absurd h hval
  | convert s d x =>
    simp only [symOp, opConv, Option.bind_eq_bind, Option.bind_eq_some_iff] at h
    obtain ⟨_, _, h⟩ := h
    exact absurd h hval
  | makeSlice t l c =>
    simp only [symOp, opMakeSlice, Option.bind_eq_bind, Option.bind_eq_some_iff] at h
    obtain ⟨i, _, h⟩ := h
    split at h
    · simp only [Option.bind_eq_some_iff] at h
      obtain ⟨_, _, _, _, _, _, _, _, _, _, _, _, ⟨_, _⟩, _, h⟩ := h
      cases h
    · cases h
  | slice t x lo hi mx =>
    simp only [symOp, opSlice, Option.bind_eq_bind, Option.bind_eq_some_iff] at h
    obtain ⟨i, _, h⟩ := h
    split at h
    · simp only [Option.bind_eq_some_iff] at h
      obtain ⟨_, _, _, _, ⟨l, hh, m⟩, _, h⟩ := h
      cases h
    · simp only [Option.bind_eq_some_iff] at h
      obtain ⟨_, _, ⟨l, hh, m⟩, _, h⟩ := h
      cases h
    · simp only [Option.bind_eq_some_iff] at h
      obtain ⟨ei, _, h⟩ := h
      split at h
      · simp only [Option.bind_eq_some_iff] at h
        obtain ⟨⟨l, hh, m⟩, _, h⟩ := h
        cases h
      · simp only [Option.bind_eq_some_iff] at h
        obtain ⟨low, _, h⟩ := h
        split at h
        · simp only [Option.bind_eq_some_iff] at h
          obtain ⟨⟨l, hh, m⟩, _, h⟩ := h
          cases h
        · simp only [Option.bind_eq_some_iff] at h
          obtain ⟨_, _, ⟨l, hh, m⟩, _, h⟩ := h
          split at h
          · cases h
          · split at h <;> cases h
    · cases h
  | extract x k =>
    simp only [symOp] at h
    unfold opExtract at h
    split at h
    · exact absurd h hval
    · cases h
  | _ => cases h
theorem opCall_builtin_ne {cx : Ctx} {a : Fr} {σ : St} {b : Builtin} {cargs : Array Operand} {cts : Array TypeId} {type : TypeId} {f : FuncId} {all : List Value} :
    opCall cx a σ ⟨.builtin b, cargs, cts⟩ type ≠ some (.enter f all) := by
  have hval : ∀ {m : Option Value}, val σ m ≠ some (.enter f all) := by
    intro m hm
    unfold val at hm
    split at hm <;> cases hm
  intro h
  unfold opCall at h
  split at h
  · unfold callLen at h
    split at h
    · exact absurd h hval
    · cases h
  · unfold callCap at h
    split at h
    · simp only [Option.bind_eq_some_iff] at h
      obtain ⟨i, _, h⟩ := h
      exact absurd h hval
    · cases h
  · unfold callAppend at h
    split at h
    · exact absurd h opAppend_ne
    · cases h
  · unfold callCopy at h
    split at h
    · exact absurd h opCopy_ne
    · cases h
  · unfold callMinMax at h
    exact absurd h (cond_ne hval none_ne)
  · rename_i hc
    cases hc
  · cases h
section
variable {cx : Ctx} (hC : CtxOk cx)
include hC
theorem known_sound {f : FuncId} {args : List Value} {σ σ' : St} {v : Value} (h : known cx f args σ = some (v, σ')) {η : Env} {w : World} (hwf : WF (vw cx σ)) (hd : Den cx.P Every (vw cx σ) η w)
    (ha : ∀ x ∈ args, ok η x) : vw cx σ' = vw cx σ ∧ plain v = true ∧ Calls cx.P f (args.map (ren η)).toArray w fun en w' => en = .returned v ∧ Grown w w' := by
  unfold known at h
  split at h
  · rename_i l hl
    have hk := hC.known f l hl
    clear hl
    induction l with
    | nil => cases h
    | cons e r ih =>
      unfold meetsAny at h
      split at h
      · rename_i x hx
        injection h with h
        subst h
        unfold meets at hx
        cases hb : (eqVL args e.args && holdCaps e.caps σ) with
        | false => rw [hb, cond_false] at hx; cases hx
        | true =>
          rw [hb, cond_true] at hx
          simp only [Option.bind_eq_some_iff] at hx
          obtain ⟨σ1, hr, hx⟩ := hx
          simp only [Option.some.injEq, Prod.mk.injEq] at hx
          obtain ⟨rfl, rfl⟩ := hx
          simp only [Bool.and_eq_true] at hb
          have hargs := eqVL_eq _ _ hb.1
          subst hargs
          obtain ⟨e1, h2⟩ := holdRows_sound e.rows σ σ1 hwf hr
          obtain ⟨hp, hK⟩ := hk e List.mem_cons_self
          refine ⟨e1, hp, hK η w hd.glob ?_ ?_ ?_ ha⟩
          · intro p hp' o b ho hb'
            exact hd.obj p.1 o b trivial ((h2 p hp').trans ho) hb'
          · intro p hp' q hq' o o' b ho ho' hb1 hb2
            exact hd.inj p.1 q.1 o o' b trivial trivial ((h2 p hp').trans ho) ((h2 q hq').trans ho') hb1 hb2
          · intro p hp' c hc
            obtain ⟨lo, hlo, hle⟩ := holdCaps_sound e.caps σ hb.2 p hp'
            obtain ⟨g1, g2⟩ := hd.caps p.1 lo c hlo hc
            exact ⟨Nat.le_trans hle g1, g2⟩
      · exact ih h fun e' he' => hk e' (List.mem_cons_of_mem _ he')
  · cases h
theorem oper_wp {rc : Rec} (hrc : CallOk cx rc) {a : Fr} {σ σ' : St} {o : Oper} {v : Value} (h : stepOper cx rc a σ (symOp cx a σ o) = some (v, σ'))
    {D : Nat → Prop} {η : Env} {w : World} {act : Act} {K : Act → World → Prop} {Q : Exit → Act → World → Prop} (hwf : WF (vw cx σ)) (hd : Den cx.P D (vw cx σ) η w)
    (hs : (fpOf a σ.next σ'.low o).seen D) (hops : ∀ x ∈ o.op.operands, ok η (a.eval x) ∧ act.eval x = ren η (a.eval x))
    (hK : ∀ η' w' W, (fpOf a σ.next σ'.low o).writes W → ((fpOf a σ.next σ'.low o).makes = false → σ'.next = σ.next) → WF (vw cx σ') → Kept (vw cx σ) η w (vw cx σ') η' w' W →
      Den cx.P (fun j => D j ∨ σ.next ≤ j) (vw cx σ') η' w' → ok η' v → K (act.put o.dst (ren η' v)) w') : o.wp cx.P act w K Q := by
  cases hr : symOp cx a σ o with
  | none => rw [hr] at h; cases h
  | some r =>
    rw [hr] at h
    have hex : execOp act.eval o = execOp (fun x => ren η (a.eval x)) o := execOp_congr o (symOp_noSelect hr) fun x hx => (hops x hx).2
    cases r with
    | val u σ1 =>
      simp only [stepOper, Option.some.injEq, Prod.mk.injEq] at h
      obtain ⟨rfl, rfl⟩ := h
      have hsees : (fpOf a σ.next σ1.low o).sees D := by
        cases hf : fpOf a σ.next σ1.low o with
        | part rs ws m => rw [hf] at hs; exact hs
        | all x => exact trivial
      obtain ⟨W, h1, h2, η', w', n, h3, h4, h5, h6, h7, h8⟩ := symOp_val hC.ty hwf hd (fun x hx => (hops x hx).1) hC.fn hsees hr
      have := hK η' w' W h1 h2 h6 h7 h8 h5
      unfold Oper.wp
      rw [hex, h3]
      rcases h4 with rfl | ⟨rfl, rfl⟩
      · exact this
      · exact this
    | enter f args =>
      obtain ⟨c, hc, hcall⟩ := symOp_enter_call hr
      obtain ⟨h1, h2, fn, code, hfn, hbody⟩ := opCall_enter hC.ty hwf hd (fun x hx => (hops x (by rw [hc]; exact hx)).1) o hc hC.fn hcall
      have hfp : ∃ x, fpOf a σ.next σ'.low o = .all x := by
        obtain ⟨callee, cargs, cts⟩ := c
        cases callee with
        | value g =>
          unfold fpOf
          rw [hc]
          exact ⟨_, rfl⟩
        | invoke r m =>
          unfold opCall at hcall
          cases hcall
        | builtin b =>
          exfalso
          refine opCall_builtin_ne hcall
      obtain ⟨x, hx⟩ := hfp
      have hxv : x = Nat.blt σ'.low σ.next := by
        obtain ⟨callee, cargs, cts⟩ := c
        cases callee with
        | value g =>
          unfold fpOf at hx
          rw [hc] at hx
          injection hx with hx
          exact hx.symm
        | invoke r m =>
          unfold opCall at hcall
          cases hcall
        | builtin b => exact (opCall_builtin_ne hcall).elim
      rw [hx] at hs hK
      have hdE : Den cx.P Every (vw cx σ) η w := hd.sub fun i _ => hs i
      have next : ∀ η' w' W, FP.writes W (.all x) → WF (vw cx σ') → Kept (vw cx σ) η w (vw cx σ') η' w' W → Den cx.P Every (vw cx σ') η' w' → ok η' v → K (act.put o.dst (ren η' v)) w' :=
        fun η' w' W g1 g2 g3 g4 g5 => hK η' w' W g1 (fun e => (by cases e)) g2 g3 (g4.sub fun _ _ => trivial) g5
      unfold Oper.wp
      rw [hex, h1]
      show Calls cx.P f (args.map (ren η)).toArray w _
      simp only [stepOper] at h
      split at h
      · rename_i q hq
        obtain ⟨u, σ1⟩ := q
        simp only [Option.some.injEq, Prod.mk.injEq] at h
        obtain ⟨rfl, rfl⟩ := h
        obtain ⟨e1, e2, hcalls⟩ := known_sound hC hq hwf hdE h2
        refine hcalls.mono fun en w' hen => ?_
        obtain ⟨rfl, hg⟩ := hen
        show K (act.put o.dst u) w'
        have := next η w' (fun _ => False) (fun _ h => h.elim) (by rw [e1]; exact hwf)
          (by
            rw [e1]
            exact { Kept.refl (vw cx σ) η w with os := hg.os, tape := hg.tape, output := hg.output, size := hg.size, frame := fun k hk _ => hg.heap k hk })
          (by rw [e1]; exact hdE.grow hg.heap) (plain_ok η u e2)
        rwa [ren_plain η u e2] at this
      · simp only [Option.bind_eq_some_iff] at h
        obtain ⟨r, hr', hb⟩ := h
        have hlow : vw cx { σ with low := σ.next } = { vw cx σ with low := σ.next } := rfl
        have hcalls := hrc f args a { σ with low := σ.next } r hr' η w (hwf.setLow _) (hdE.setLow _) h2
        refine hcalls.mono fun en w' hen => ?_
        obtain ⟨η', u, rfl, hget, hok, hwf', hk, hd'⟩ := hen
        show K (act.put o.dst (ren η' u)) w'
        unfold backFrom at hb
        rw [hget] at hb
        simp only [Option.some.injEq] at hb
        cases hcase : (plain u && Nat.ble σ.next r.σ.low) with
        | true =>
          rw [hcase, cond_true] at hb
          simp only [Prod.mk.injEq] at hb
          obtain ⟨rfl, rfl⟩ := hb
          simp only [Bool.and_eq_true] at hcase
          have hle := Nat.le_of_ble_eq_true hcase.2
          have hno : ∀ i, ¬ coarse (vw cx { σ with low := σ.next }) (vw cx r.σ) i := by
            rintro i ⟨h3, o', h4, _⟩
            have h5 : i < σ.next := hwf.lt i o' h4
            have h6 : r.σ.low ≤ i := h3
            omega
          have hheap : ∀ k, k < w.heap.size → w'.heap[k]? = w.heap[k]? := fun k hk' => hk.frame k hk' fun i hi => (hno i hi).elim
          rw [ren_plain η' u hcase.1]
          have := next η w' (fun _ => False) (fun _ h => h.elim) hwf
            { Kept.refl (vw cx σ) η w with os := hk.os, tape := hk.tape, output := hk.output, size := hk.size, frame := fun k hk' _ => hheap k hk' }
            (hdE.grow hheap) (plain_ok η u hcase.1)
          rwa [ren_plain η u hcase.1] at this
        | false =>
          rw [hcase, cond_false] at hb
          simp only [Prod.mk.injEq] at hb
          obtain ⟨rfl, rfl⟩ := hb
          have hk2 : Kept (vw cx σ) η w (vw cx { r.σ with low := min σ.low r.σ.low }) η' w' (coarse (vw cx { σ with low := σ.next }) (vw cx r.σ)) :=
            hk.lower σ.low (min σ.low r.σ.low) (Nat.min_le_left _ _) (Nat.min_le_right _ _)
          refine next η' w' _ ?_ (hwf'.setLow _) hk2 (hd'.setLow _) hok
          intro i hi
          rw [hxv]
          exact live_lt hwf hk2 hi
end
end
end Go.Sym
namespace Go.Sym
open Go
noncomputable section
set_option maxRecDepth 20000
theorem opersOk_at {ops : Array Oper} : ∀ (l : List Oper) (j : Nat), opersOk ops j l = true → ∀ (k : Nat) (o : Oper), l[k]? = some o → operOk ops (j + k) o = true
  | [], _, _, k, o, h => by simp at h
  | x :: r, j, hok, k, o, h => by
    simp only [opersOk, Bool.and_eq_true] at hok
    cases k with
    | zero =>
      simp only [List.getElem?_cons_zero, Option.some.injEq] at h
      subst h
      exact hok.1
    | succ k =>
      simp only [List.getElem?_cons_succ] at h
      have := opersOk_at r (j + 1) hok.2 k o h
      rw [show j + 1 + k = j + (k + 1) by omega] at this
      exact this
theorem pairsOk_at {m : Nat} {b : Oper} : ∀ (l : List Oper) (i : Nat), pairsOk m b i l = true → ∀ (k : Nat) (x : Oper), l[k]? = some x → pairOk m (i + k) x b = true
  | [], _, _, k, x, h => by simp at h
  | a :: r, i, hok, k, x, h => by
    simp only [pairsOk, Bool.and_eq_true] at hok
    cases k with
    | zero =>
      simp only [List.getElem?_cons_zero, Option.some.injEq] at h
      subst h
      exact hok.1
    | succ k =>
      simp only [List.getElem?_cons_succ] at h
      have := pairsOk_at r (i + 1) hok.2 k x h
      rw [show i + 1 + k = i + (k + 1) by omega] at this
      exact this
section
variable {ops : Array Oper} (h : opersOk ops 0 ops.toList = true)
include h
theorem oper_at {j : Nat} {o : Oper} (ho : ops[j]? = some o) : operOk ops j o = true := by
  have := opersOk_at ops.toList 0 h j o (by simpa using ho)
  simpa using this
theorem ops_back : Back ops := by
  intro j o ho e he hb
  have := oper_at h ho
  simp only [operOk, Bool.and_eq_true, List.all_eq_true] at this
  have := this.1.1 e (by simpa using he)
  rw [hb] at this
  simpa [Nat.blt_eq] using this
theorem ops_guard {k : Nat} {o : Oper} {g : Nat} {want : Bool} (ho : ops[k]? = some o) (hg : o.guard = some (g, want)) : ((Region.before ops).getD k 0).testBit g = true ∧ g < k := by
  have := oper_at h ho
  simp only [operOk, Bool.and_eq_true] at this
  have := this.1.2
  rw [hg] at this
  simp only [Bool.and_eq_true, Nat.blt_eq] at this
  exact this
theorem ops_pairs {j k : Nat} {x y : Oper} (hx : ops[j]? = some x) (hy : ops[k]? = some y) (hjk : j < k) : pairOk ((Region.before ops).getD k 0) j x y = true := by
  have := oper_at h hy
  simp only [operOk, Bool.and_eq_true] at this
  have := pairsOk_at _ 0 this.2 j x (by
    rw [List.getElem?_take_of_lt hjk]
    simpa using hx)
  simpa using this
end
theorem frame_fold : ∀ (l : List Value) (s : Nat) (tr : Tr Value) (t : Nat), s + l.length ≤ 1000000 →
    ((l.foldl (fun (s : Nat × Tr Value) v => (s.1 + 1, s.2.put deep s.1 (some v))) (s, tr)).2).get t = if s ≤ t ∧ t < s + l.length then l[t - s]? else tr.get t
  | [], s, tr, t, _ => by
    simp
    omega
  | v :: l, s, tr, t, h => by
    simp only [List.length_cons] at h
    simp only [List.foldl_cons, List.length_cons]
    rw [frame_fold l (s + 1) _ t (by omega), Tr.get_put _ _ _ _ _ (small_deep (by omega))]
    by_cases h1 : s + 1 ≤ t ∧ t < s + 1 + l.length
    · rw [if_pos h1, if_pos (by omega)]
      have : t - s = (t - (s + 1)) + 1 := by omega
      rw [this, List.getElem?_cons_succ]
    · rw [if_neg h1]
      by_cases h2 : t = s
      · subst h2
        rw [if_pos rfl, if_pos (by omega)]
        simp
      · rw [if_neg h2, if_neg (by omega)]
theorem frameOf_ok {n : Nat} {args : List Value} {η : Env} (hn : n ≤ 1000000) (hl : args.length ≤ n) (ha : ∀ x ∈ args, ok η x) :
    FrOk (frameOf n args) η { tmps := (args.map (ren η)).toArray ++ Array.replicate (n - (args.map (ren η)).toArray.size) undef, defers := [] } := by
  have hg : ∀ t, (frameOf n args).t.get t = args[t]? := by
    intro t
    show ((args.foldl (fun (s : Nat × Tr Value) v => (s.1 + 1, s.2.put deep s.1 (some v))) (0, .leaf)).2).get t = _
    rw [frame_fold args 0 .leaf t (by omega)]
    by_cases h : t < args.length
    · simp [h]
    · rw [if_neg (by omega), Tr.get_leaf, List.getElem?_eq_none (by omega)]
  refine ⟨rfl, ?_, hn, fun t => ?_, fun t => ?_⟩
  · simp
    show args.length + (n - args.length) = n
    omega
  · rw [hg]
    simp only [Array.getD_eq_getD_getElem?]
    by_cases h : t < args.length
    · rw [Array.getElem?_append_left (by simpa using h)]
      simp [h, orUndef]
    · rw [Array.getElem?_append_right (by simpa using Nat.le_of_not_lt h), List.getElem?_eq_none (Nat.le_of_not_lt h)]
      simp only [Array.getElem?_replicate]
      split <;> simp [orUndef, ren_undef]
  · rw [hg]
    cases he : args[t]? with
    | none => exact ok_undef η
    | some v => exact ha v (List.mem_of_getElem? he)
def resReal (tmps : Array Value) : ResultVar → Sem Value
  | .tmp t => pure (tmps.getD t undef)
  | .cell a t => do Go.loadVar t (← asAddr (tmps.getD a undef))
theorem results_eq (fn : Func) (tmps : Array Value) : results fn tmps = (do
    let vs ← fn.results.mapM (resReal tmps)
    pure (if h : vs.size = 1 then vs[0] else .tuple vs)) := by
  unfold results
  have : (fun r : ResultVar => (match r with
    | .tmp t => pure (tmps.getD t undef)
    | .cell a t => do Go.loadVar t (← asAddr (tmps.getD a undef)) : Sem Value)) = resReal tmps := by
    funext r
    cases r <;> rfl
  rw [← this]
  rfl
theorem resOne_sound {cx : Ctx} (hT : TysOk cx) {a : Fr} {σ : St} {η : Env} {w : World} {act : Act} (hf : FrOk a η act) (hd : Den cx.P Every (vw cx σ) η w) (r : ResultVar) (v : Value)
    (hv : resOne cx a σ r = some v) : (resReal act.tmps r).run cx.P w = .ok (ren η v) w ∧ ok η v := by
  cases r with
  | tmp t =>
    simp only [resOne, Option.some.injEq] at hv
    subst hv
    refine ⟨?_, hf.oks t⟩
    show Result.ok (act.tmps.getD t undef) w = _
    rw [hf.val t]
    rfl
  | cell x t =>
    simp only [resOne, Option.bind_eq_some_iff] at hv
    obtain ⟨ad, had, hv⟩ := hv
    have he := addrOf_inv had
    have hval := hf.val x
    have hok := hf.oks x
    change orUndef (a.t.get x) = .pointer (some ad) at he
    rw [he] at hval hok
    have hblk := ok_pointer.1 hok
    simp only [loadVar, Option.bind_eq_bind, Option.bind_eq_some_iff] at hv
    obtain ⟨i, hi, hv⟩ := hv
    simp only [resReal, hval, ren, Option.map_some, asAddr, Sem.run_bind, Sem.run_pure, Result.andThen_ok, Go.loadVar, ty_agg hT hi]
    cases hag : isAggD i.desc with
    | true =>
      simp only [hag, if_true, Option.bind_eq_some_iff] at hv
      obtain ⟨cs, hcs, hv⟩ := hv
      injection hv with hv
      subst hv
      obtain ⟨h1, h2, h3, h4⟩ := loadCells_sound hd hblk trivial hcs
      refine ⟨?_, by simpa [ok, okA, okL_iff] using h2⟩
      simp [ty_size hT hi, h4, ren, renArr, renL_eq]
    | false =>
      simp only [hag, Bool.false_eq_true, if_false, Option.bind_eq_some_iff] at hv
      obtain ⟨cs, hcs, hv⟩ := hv
      obtain ⟨h1, h2, h3, h4⟩ := loadCells_sound hd hblk trivial hcs
      split at hv
      · injection hv with hv
        subst hv
        have h5 := h3 0 _ rfl
        have h6 : (renA η ad).add 0 = renA η ad := rfl
        rw [h6] at h5
        exact ⟨by simp [h5], h2 _ (by simp)⟩
      · cases hv
theorem resList_sound {cx : Ctx} (hT : TysOk cx) {a : Fr} {σ : St} {η : Env} {w : World} {act : Act} (hf : FrOk a η act) (hd : Den cx.P Every (vw cx σ) η w) :
    ∀ (l : List ResultVar) (out : List Value), l.mapM (resOne cx a σ) = some out → (l.mapM (resReal act.tmps)).run cx.P w = .ok (out.map (ren η)) w ∧ ∀ v ∈ out, ok η v
  | [], out, ho => by
    simp only [List.mapM_nil, Option.pure_def, Option.some.injEq] at ho
    subst ho
    exact ⟨rfl, by simp⟩
  | r :: l, out, ho => by
    simp only [List.mapM_cons, Option.bind_eq_bind, Option.bind_eq_some_iff] at ho
    obtain ⟨v, hv, vs, hvs, ho⟩ := ho
    injection ho with ho
    subst ho
    obtain ⟨h1, h2⟩ := resOne_sound hT hf hd r v hv
    obtain ⟨h3, h4⟩ := resList_sound hT hf hd l vs hvs
    refine ⟨?_, ?_⟩
    · rw [List.mapM_cons, Sem.run_bind, h1, Result.andThen_ok, Sem.run_bind, h3]
      rfl
    · intro x hx
      rcases List.mem_cons.1 hx with rfl | hx
      · exact h2
      · exact h4 x hx
theorem resultsOf_sound {cx : Ctx} (hT : TysOk cx) {fn : Func} {a : Fr} {σ : St} {η : Env} {w : World} {act : Act} (hf : FrOk a η act) (hd : Den cx.P Every (vw cx σ) η w) {vs : List Value}
    (h : resultsOf cx fn a σ = some vs) : (results fn act.tmps).run cx.P w = .ok (ren η (wrapUp vs)) w ∧ ok η (wrapUp vs) := by
  obtain ⟨h1, h2⟩ := resList_sound hT hf hd fn.results.toList vs h
  have hok : ok η (wrapUp vs) := by
    unfold wrapUp
    split
    · exact h2 _ (by simp)
    · simpa [ok, okA, okL_iff] using h2
  refine ⟨?_, hok⟩
  rw [results_eq, Sem.run_bind, Array.mapM_eq_mapM_toList, Sem.run_map, h1]
  simp only [Result.andThen_ok, Sem.run_pure]
  congr 1
  cases vs with
  | nil => rfl
  | cons v r =>
    cases r with
    | nil => rfl
    | cons u r =>
      rw [dif_neg (by simp)]
      simp [wrapUp, ren, renArr, renL_eq]
theorem Kept.through {cx : Ctx} {σ σ' σ'' : St} {η η' η'' : Env} {w w' w'' : World} {W W' : Nat → Prop} (h : Kept (vw cx σ) η w (vw cx σ') η' w' W) (k : Kept (vw cx σ') η' w' (vw cx σ'') η'' w'' W') :
    Kept (vw cx σ) η w (vw cx σ'') η'' w'' (Sym.coarse (vw cx σ) (vw cx σ'')) := h.trans k
theorem After.through {cx : Ctx} {σ σ' : St} {η η' : Env} {w w' : World} {out : Out} {Q : Exit → Act → World → Prop} {W : Nat → Prop} (h : After cx σ η w out Q)
    (k : Kept (vw cx σ) η w (vw cx σ') η' w' W) : After cx σ' η' w' out Q :=
  fun η2 w2 act2 g1 g2 g3 g4 => h η2 w2 act2 g1 g2 (k.trans g3) g4
section
variable {cx : Ctx} (hC : CtxOk cx) {rc : Rec}
include hC
theorem code_step (hCode : CodeOk cx rc) (hAgain : AgainOk cx rc) (hOps : OpsOk cx rc) (hDraw : DrawOk cx rc) : CodeOk cx (fun t a σ => match t with | .code c => stepCode rc c a σ | _ => none) := by
  intro c a σ out hok h η w act Q hwf hd hf hQ
  simp only at h
  cases c with
  | skip =>
    simp only [stepCode, Option.some.injEq] at h
    subst h
    exact wp_skip (hQ η w act hf hwf (Kept.refl _ _ _).coarse hd)
  | region id ops draw =>
    simp only [stepCode] at h
    simp only [codeOk, Bool.and_eq_true, List.all_eq_true] at hok
    have hopnd : ∀ o ∈ ops, operOk' cx.P.globals.size o = true := fun o ho => hok.1 o (by simpa using ho)
    cases draw with
    | false =>
      have := hOps ops 0 [] ops.toList a σ out hopnd (by simp) (Nat.zero_le _) h η w act Q hwf hd hf hQ
      refine wp_region ?_
      rw [List.range_eq_range']
      simpa using this
    | true =>
      obtain ⟨A, S, V, F, hA, hS, hA', hS', hex, hF⟩ := hDraw ops 0 [] ops.toList a σ out hopnd (by simp) (Nat.zero_le _) h
      have hoo : opersOk ops 0 ops.toList = true := by simpa using hok.2
      have T : Trace cx ops A S V F :=
        { spec := fun k o ho => hF.spec k o (Nat.zero_le _) ho
          put := fun k o ho => hF.put k o (Nat.zero_le _) ho
          conf := fun k j hk hjk hc => (hF.conf k (Nat.zero_le _) hk).2 j (Nat.zero_le _) hjk hc
          names := fun k o ho => hF.names k o (Nat.zero_le _) ho
          back := ops_back hoo
          guard := fun k o g want ho hg => ops_guard hoo ho hg
          pairs := fun j k x y hx hy hjk => ops_pairs hoo hx hy hjk
          opnd := fun k o ho x hx => by
            have := hopnd o (Array.mem_of_getElem? ho)
            simp only [operOk', List.all_eq_true] at this
            exact this x (by simpa using hx) }
      subst hA hS
      refine region_law T hwf hd hf (fun η' w' act' g1 g2 g3 g4 => ?_) hC.mixed id
      have hex' : exitOf out.ex = .normal := by rw [hex]; rfl
      rw [← hex']
      exact hQ η' w' act' (by rw [← hA']; exact g1) (by rw [← hS']; exact g2) (by rw [← hS']; exact g3) (by rw [← hS']; exact g4)
  | seq x y =>
    simp only [stepCode, Option.bind_eq_some_iff] at h
    obtain ⟨r, hr, h⟩ := h
    simp only [codeOk, Bool.and_eq_true] at hok
    refine wp_seq (hCode x a σ r hok.1 hr η w act _ hwf hd hf ?_)
    intro η' w' act' g1 g2 g3 g4
    unfold stepSeq at h
    cases hex : r.ex with
    | normal =>
      simp only [hex] at h
      exact hCode y r.a r.σ out hok.2 h η' w' act' Q g2 g4 g1 (hQ.through g3)
    | exit id =>
      simp only [hex, Option.some.injEq] at h
      subst h
      have := hQ η' w' act' g1 g2 g3 g4
      rw [hex] at this
      exact this
    | ret =>
      simp only [hex, Option.some.injEq] at h
      subst h
      have := hQ η' w' act' g1 g2 g3 g4
      rw [hex] at this
      exact this
  | cond c x y =>
    simp only [stepCode] at h
    simp only [codeOk, Bool.and_eq_true] at hok
    unfold stepCond at h
    split at h
    · rename_i b hb
      obtain ⟨_, hev⟩ := hf.eval hd.glob hok.1.1
      rw [hb] at hev
      refine wp_cond hev ?_
      cases b
      · exact hCode y a σ out hok.2 h η w act Q hwf hd hf hQ
      · exact hCode x a σ out hok.1.2 h η w act Q hwf hd hf hQ
    · cases h
  | block id x =>
    simp only [stepCode, Option.bind_eq_some_iff] at h
    obtain ⟨r, hr, h⟩ := h
    simp only [codeOk] at hok
    refine wp_block (hCode x a σ r hok hr η w act _ hwf hd hf ?_)
    intro η' w' act' g1 g2 g3 g4
    unfold stepBlock at h
    cases hex : r.ex with
    | normal =>
      simp only [hex, Option.some.injEq] at h
      subst h
      have := hQ η' w' act' g1 g2 g3 g4
      rw [hex] at this
      exact this
    | exit j =>
      simp only [hex, Option.some.injEq] at h
      show (if j = id then Q .normal act' w' else Q (.exit j) act' w')
      by_cases e : j = id
      · subst e
        have hb : Nat.beq j j = true := by simp
        rw [hb, cond_true] at h
        subst h
        rw [if_pos rfl]
        exact hQ η' w' act' g1 g2 g3 g4
      · have hb : Nat.beq j id = false := by
          cases hb : Nat.beq j id
          · rfl
          · exact absurd (Nat.eq_of_beq_eq_true hb) e
        rw [hb, cond_false] at h
        subst h
        rw [if_neg e]
        have := hQ η' w' act' g1 g2 g3 g4
        rw [hex] at this
        exact this
    | ret =>
      simp only [hex, Option.some.injEq] at h
      subst h
      have := hQ η' w' act' g1 g2 g3 g4
      rw [hex] at this
      exact this
  | loop x =>
    simp only [stepCode] at h
    simp only [codeOk] at hok
    exact wp_of_loopWp (hAgain x a σ out hok h η w act Q hwf hd hf hQ)
  | exit id =>
    simp only [stepCode, Option.some.injEq] at h
    subst h
    exact wp_exit (hQ η w act hf hwf (Kept.refl _ _ _).coarse hd)
  | ret =>
    simp only [stepCode, Option.some.injEq] at h
    subst h
    exact wp_ret (hQ η w act hf hwf (Kept.refl _ _ _).coarse hd)
  | rangeFunc f ps x y => cases h
  | scope x => cases h
  | label l => cases h
  | goto l => cases h
  | refuse s => cases h
omit hC in
theorem again_step (hCode : CodeOk cx rc) (hAgain : AgainOk cx rc) : AgainOk cx (fun t a σ => match t with | .again x => (rc (.code x) a σ).bind (stepAgain rc x) | _ => none) := by
  intro c a σ out hok h η w act Q hwf hd hf hQ
  simp only [Option.bind_eq_some_iff] at h
  obtain ⟨r, hr, h⟩ := h
  refine loopWp_of (hCode c a σ r hok hr η w act _ hwf hd hf ?_)
  intro η' w' act' g1 g2 g3 g4
  unfold stepAgain at h
  cases hex : r.ex with
  | normal =>
    simp only [hex] at h
    exact hAgain c r.a r.σ out hok h η' w' act' Q g2 g4 g1 (hQ.through g3)
  | exit id =>
    simp only [hex, Option.some.injEq] at h
    subst h
    have := hQ η' w' act' g1 g2 g3 g4
    rw [hex] at this
    exact this
  | ret =>
    simp only [hex, Option.some.injEq] at h
    subst h
    have := hQ η' w' act' g1 g2 g3 g4
    rw [hex] at this
    exact this
theorem call_step (hCode : CodeOk cx rc) : CallOk cx (fun t _ σ => match t with | .call f args => stepCall cx rc args σ (cx.fn.get f) | _ => none) := by
  intro f args a σ out h η w hwf hd ha
  simp only at h
  cases hfn : cx.fn.get f with
  | none => rw [hfn] at h; cases h
  | some fn =>
    rw [hfn] at h
    simp only [stepCall] at h
    obtain ⟨hget, hbok⟩ := hC.fn f fn hfn
    cases hb : fn.body with
    | none => rw [hb] at h; cases h
    | some c =>
      rw [hb] at h
      simp only [stepBody] at h
      simp only [bodyOk, hb, Bool.and_eq_true] at hbok
      have hn := Nat.le_of_ble_eq_true hbok.1.1
      cases hl : Nat.ble args.length fn.ntmps with
      | false => rw [hl, cond_false] at h; cases h
      | true =>
        rw [hl, cond_true] at h
        simp only [Option.bind_eq_some_iff] at h
        obtain ⟨r, hr, h⟩ := h
        refine calls_of_wp hget hb ?_
        refine hCode c (frameOf fn.ntmps args) σ r hbok.2 hr η w _ _ hwf hd (frameOf_ok hn (Nat.le_of_ble_eq_true hl) ha) ?_
        intro η' w' act' g1 g2 g3 g4
        unfold stepRet at h
        cases hex : r.ex with
        | exit id => simp only [hex] at h; cases h
        | normal =>
          simp only [hex, Option.bind_eq_some_iff] at h
          obtain ⟨vs, hvs, h⟩ := h
          injection h with h
          subst h
          obtain ⟨h1, h2⟩ := resultsOf_sound hC.ty g1 g4 hvs
          exact ⟨g1.defers, _, h1, η', _, rfl, rfl, h2, g2, g3, g4⟩
        | ret =>
          simp only [hex, Option.bind_eq_some_iff] at h
          obtain ⟨vs, hvs, h⟩ := h
          injection h with h
          subst h
          obtain ⟨h1, h2⟩ := resultsOf_sound hC.ty g1 g4 hvs
          exact ⟨g1.defers, _, h1, η', _, rfl, rfl, h2, g2, g3, g4⟩
omit hC in
theorem drop_cons {α : Type} {l : List α} {i : Nat} {o : α} {rest : List α} (h : o :: rest = l.drop i) : l[i]? = some o ∧ rest = l.drop (i + 1) ∧ i < l.length := by
  have hlt : i < l.length := by
    rcases Nat.lt_or_ge i l.length with h' | h'
    · exact h'
    · rw [List.drop_eq_nil_of_le h'] at h
      cases h
  rw [List.drop_eq_getElem_cons hlt] at h
  injection h with h1 h2
  exact ⟨by rw [List.getElem?_eq_getElem hlt, h1], h2, hlt⟩
theorem ops_step (hCall : CallOk cx rc) (hOps : OpsOk cx rc) : OpsOk cx (fun t a σ => match t with | .ops draw all i fs l => stepOps cx rc draw all i fs l a σ | _ => none) := by
  intro all i fs l a σ out hopnd hl hi h η w act Q hwf hd hf hQ
  simp only at h
  cases l with
  | nil =>
    simp only [stepOps, Option.some.injEq] at h
    subst h
    have : all.size - i = 0 := by
      have := congrArg List.length hl
      simp at this
      omega
    rw [this]
    exact hQ η w act hf hwf (Kept.refl _ _ _).coarse hd
  | cons o rest =>
    obtain ⟨ho, hrest, hlt⟩ := drop_cons hl
    have ho' : all[i]? = some o := by simpa using ho
    have hlt' : i < all.size := by simpa using hlt
    have hr : List.range' i (all.size - i) = i :: List.range' (i + 1) (all.size - (i + 1)) := by
      have : all.size - i = (all.size - (i + 1)) + 1 := by omega
      rw [this]
      rfl
    have hopo : ∀ x ∈ o.op.operands, operandOk cx.P.globals.size x = true := fun x hx => by
      have := hopnd o (Array.mem_of_getElem? ho')
      simp only [operOk', List.all_eq_true] at this
      exact this x (by simpa using hx)
    have hwant : Region.wanted o (yielded all act.tmps) = wantedS all a o :=
      wanted_eq (η := η) fun g want _ => yielded_eq (η := η) fun _ d _ _ => hf.val d
    rw [hr]
    simp only [wpOps, ho', hwant]
    simp only [stepOps] at h
    cases hw : wantedS all a o with
    | false =>
      simp only [hw] at h
      simp only [Bool.false_eq_true, if_false]
      have hf' := hf.put (Ext.refl η) o.dst (ok_undef η)
      exact hOps all (i + 1) fs rest _ σ out hopnd hrest hlt' h η w _ Q hwf hd hf' hQ
    | true =>
      simp only [hw, cond_false] at h
      simp only [if_true]
      split at h
      · rename_i v σ1 fs1 hq
        simp only [Option.bind_eq_some_iff] at hq
        obtain ⟨⟨v', σ2⟩, hq1, hq2⟩ := hq
        simp only [stepFps, Option.some.injEq, Prod.mk.injEq] at hq2
        obtain ⟨rfl, rfl, rfl⟩ := hq2
        refine .inl (oper_wp hC hCall hq1 hwf hd ?_ (fun x hx => hf.eval hd.glob (hopo x hx)) ?_)
        · cases fpOf a σ.next σ2.low o <;> simp [FP.seen, Every]
        · intro η' w' W _ _ g3 g4 g5 g6
          have hf' := hf.put g4.ext o.dst g6
          exact hOps all (i + 1) [] rest _ σ2 out hopnd hrest hlt' h η' w' _ Q g3 (g5.sub fun _ _ => .inl trivial) hf' (hQ.through g4)
      · cases h
omit hC in
theorem fits_at {all : Array Oper} {i : Nat} {fp : FP} : ∀ {fs : List (Nat × FP)}, fits all i fp fs = true → ∀ p ∈ fs, fp.conflict p.2 = true → ((Region.before all).getD i 0).testBit p.1 = true
  | [], _, p, hp, _ => by cases hp
  | (j, g) :: r, h, p, hp, hc => by
    simp only [fits, Bool.and_eq_true, Bool.or_eq_true, Bool.not_eq_true'] at h
    rcases List.mem_cons.1 hp with rfl | hp
    · rcases h.1 with h1 | h1
      · rw [hc] at h1; cases h1
      · exact h1
    · exact fits_at h.2 p hp hc
omit hC in
theorem conflict_nil (f : FP) : f.conflict (.part [] [] false) = false := by
  have h1 : ∀ x : List Nat, meet x [] = false := by
    intro x
    unfold meet
    induction x with
    | nil => rfl
    | cons a r ih => simp
  cases f with
  | part r w m => simp [FP.conflict, h1]
  | all x => simp [FP.conflict]
omit hC in
theorem keep_mem {i : Nat} {fp : FP} {fs : List (Nat × FP)} : (∀ p ∈ fs, p ∈ keepFp i fp fs) ∧ (fp = .part [] [] false ∨ (i, fp) ∈ keepFp i fp fs) := by
  unfold keepFp
  split
  · exact ⟨fun p hp => hp, .inl rfl⟩
  · exact ⟨fun p hp => List.mem_cons_of_mem _ hp, .inr List.mem_cons_self⟩
theorem draw_step (hCall : CallOk cx rc) (hDraw : DrawOk cx rc) : DrawOk cx (fun t a σ => match t with | .ops draw all i fs l => stepOps cx rc draw all i fs l a σ | _ => none) := by
  intro all i fs l a σ out hopnd hl hi h
  simp only at h
  cases l with
  | nil =>
    simp only [stepOps, Option.some.injEq] at h
    subst h
    have hsz : i = all.size := by
      have := congrArg List.length hl
      simp at this
      omega
    refine ⟨fun _ => a, fun _ => σ, fun _ => undef, fun _ => .part [] [] false, rfl, rfl, rfl, rfl, rfl, ?_, ?_, ?_, ?_⟩
    · intro m o hm ho
      have := (Array.getElem?_eq_some_iff.1 ho).1
      omega
    · intro m o hm ho
      have := (Array.getElem?_eq_some_iff.1 ho).1
      omega
    · intro m o hm ho
      have := (Array.getElem?_eq_some_iff.1 ho).1
      omega
    · intro m hm hlt
      omega
  | cons o rest =>
    obtain ⟨ho, hrest, hlt⟩ := drop_cons hl
    have ho' : all[i]? = some o := by simpa using ho
    have hlt' : i < all.size := by simpa using hlt
    simp only [stepOps] at h
    have glue : ∀ (v : Value) (σ1 : St) (fp : FP) (fs1 : List (Nat × FP)), rc (.ops true all (i + 1) fs1 rest) (a.put o.dst v) σ1 = some out → OpSpec cx all a σ o v σ1 fp →
        (∀ rs ws mk, fp = .part rs ws mk → ∀ k, (k ∈ rs ∨ k ∈ ws) → ∃ x ∈ o.op.operands, k ∈ blockOf (a.eval x)) →
        (∀ p ∈ fs, fp.conflict p.2 = true → ((Region.before all).getD i 0).testBit p.1 = true) → (∀ p ∈ fs, p ∈ fs1) → (fp = .part [] [] false ∨ (i, fp) ∈ fs1) →
        ∃ A S V F, A i = a ∧ S i = σ ∧ A all.size = out.a ∧ S all.size = out.σ ∧ out.ex = .normal ∧ Found cx all i fs A S V F := by
      intro v σ1 fp fs1 hrun hspec hnames hconf hsub hmem
      obtain ⟨A, S, V, F, hA, hS, hA', hS', hex, hF⟩ := hDraw all (i + 1) fs1 rest _ σ1 out hopnd hrest hlt' hrun
      refine ⟨fun k => if k = i then a else A k, fun k => if k = i then σ else S k, fun k => if k = i then v else V k, fun k => if k = i then fp else F k, if_pos rfl, if_pos rfl,
        by show (if all.size = i then a else A all.size) = out.a; rw [if_neg (by omega), hA'], by show (if all.size = i then σ else S all.size) = out.σ; rw [if_neg (by omega), hS'], hex, ?_, ?_, ?_, ?_⟩
      · intro m y hm hy
        by_cases e : m = i
        · subst e
          rw [ho'] at hy
          injection hy with hy
          subst hy
          simp only [if_true, if_neg (show ¬ m + 1 = m by omega), hS]
          exact hspec
        · simp only [if_neg e, if_neg (show ¬ m + 1 = i by omega)]
          exact hF.spec m y (by omega) hy
      · intro m y hm hy
        by_cases e : m = i
        · subst e
          rw [ho'] at hy
          injection hy with hy
          subst hy
          simp only [if_true, if_neg (show ¬ m + 1 = m by omega), hA]
        · simp only [if_neg e, if_neg (show ¬ m + 1 = i by omega)]
          exact hF.put m y (by omega) hy
      · intro m y hm hy
        by_cases e : m = i
        · subst e
          rw [ho'] at hy
          injection hy with hy
          subst hy
          simp only [if_true]
          exact hnames
        · simp only [if_neg e]
          exact hF.names m y (by omega) hy
      · intro m hm hmn
        by_cases e : m = i
        · subst e
          simp only [if_true]
          exact ⟨hconf, fun j h1 h2 => by omega⟩
        · simp only [if_neg e]
          obtain ⟨c1, c2⟩ := hF.conf m (by omega) hmn
          refine ⟨fun p hp => c1 p (hsub p hp), fun j h1 h2 => ?_⟩
          by_cases ej : j = i
          · subst ej
            simp only [if_true]
            intro hc
            rcases hmem with h3 | h3
            · rw [h3, conflict_nil] at hc
              cases hc
            · exact c1 _ h3 hc
          · simp only [if_neg ej]
            exact c2 j (by omega) h2
    cases hw : wantedS all a o with
    | false =>
      simp only [hw] at h
      refine glue undef σ (.part [] [] false) fs h (.inl ⟨hw, rfl, rfl, rfl⟩) ?_ ?_ (fun _ h => h) (.inl rfl)
      · intro rs ws mk he k hk
        injection he with h1 h2 h3
        subst h1 h2
        simp at hk
      · intro p _ hc
        cases hp2 : p.2 with
        | part r w m =>
          rw [hp2] at hc
          have h1 : ∀ x : List Nat, meet [] x = false := fun _ => rfl
          have h2 : ∀ x : List Nat, meet x [] = false := by
            intro x
            unfold meet
            induction x with
            | nil => rfl
            | cons a r ih => simp
          simp [FP.conflict, h1] at hc
        | all x =>
          rw [hp2] at hc
          simp [FP.conflict] at hc
    | true =>
      simp only [hw, cond_true] at h
      split at h
      · rename_i v σ1 fs1 hq
        simp only [Option.bind_eq_some_iff] at hq
        obtain ⟨⟨v', x2⟩, hq1, hq2⟩ := hq
        simp only [stepDraw] at hq2
        cases hfit : fits all i (fpOf a σ.next x2.low o) fs with
        | false => rw [hfit, cond_false] at hq2; cases hq2
        | true =>
          rw [hfit, cond_true] at hq2
          simp only [Option.some.injEq, Prod.mk.injEq] at hq2
          obtain ⟨rfl, rfl, rfl⟩ := hq2
          obtain ⟨km1, km2⟩ := keep_mem (i := i) (fp := fpOf a σ.next x2.low o) (fs := fs)
          refine glue v' _ (fpOf a σ.next x2.low o) _ h (.inr ⟨hw, ?_⟩) (fun rs ws mk he k hk => fpOf_names he hk) (fits_at hfit) km1 km2
          intro D η w act K Q hwf hd hs hops hK
          have hlow : vw cx { σ with low := σ.next } = { vw cx σ with low := σ.next } := rfl
          refine oper_wp hC hCall (σ := { σ with low := σ.next }) hq1 (hwf.setLow _) (hd.setLow _) hs hops ?_
          intro η' w' W g1 g2 g3 g4 g5 g6
          exact hK η' w' W g1 g2 (g3.setLow _) (g4.lower σ.low (min σ.low x2.low) (Nat.min_le_left _ _) (Nat.min_le_right _ _)) (g5.setLow _) g6
      · cases h
end
theorem run_sound {cx : Ctx} (hC : CtxOk cx) : ∀ k, CodeOk cx (run cx k) ∧ AgainOk cx (run cx k) ∧ OpsOk cx (run cx k) ∧ DrawOk cx (run cx k) ∧ CallOk cx (run cx k)
  | 0 => ⟨fun _ _ _ _ _ h => (by cases h), fun _ _ _ _ _ h => (by cases h), fun _ _ _ _ _ _ _ _ _ _ h => (by cases h), fun _ _ _ _ _ _ _ _ _ _ h => (by cases h), fun _ _ _ _ _ h => (by cases h)⟩
  | k + 1 => by
    obtain ⟨h1, h2, h3, h4, h5⟩ := run_sound hC k
    exact ⟨code_step hC h1 h2 h3 h4, again_step h1 h2, ops_step hC h5 h3, draw_step hC h5 h4, call_step hC h1⟩
end
end Go.Sym
namespace Go.Sym
open Go
noncomputable section
def Tr.build {α : Type} (f : Nat → Option α) : Nat → Nat → Nat → Tr α
  | 0, _, _ => .leaf
  | d + 1, a, b => .node (Tr.build f d (Nat.mul 2 a) (Nat.add a b)) (f b) (Tr.build f d (Nat.mul 2 a) (Nat.add (Nat.mul 2 a) b))
theorem Tr.get_build {α : Type} {f : Nat → Option α} : ∀ (d a b n : Nat) (x : α), (Tr.build f d a b).get n = some x → f (a * n + b) = some x
  | 0, _, _, n, x, h => by
    rw [Tr.build, Tr.get_leaf] at h
    cases h
  | d + 1, a, b, n, x, h => by
    rw [Tr.build, Tr.get_node] at h
    split at h
    · rename_i h0
      rw [h0, Nat.mul_zero, Nat.zero_add]
      exact h
    · split at h
      · rename_i h1
        have := Tr.get_build d _ _ _ x h
        simp only [Nat.mul_eq, Nat.add_eq] at this
        have e : 2 * a * (n / 2) + (a + b) = a * n + b := by
          have hn : n = 2 * (n / 2) + 1 := by omega
          calc 2 * a * (n / 2) + (a + b) = a * (2 * (n / 2) + 1) + b := by
                rw [Nat.mul_add, Nat.mul_one, Nat.mul_comm 2 a, Nat.mul_assoc]
                omega
            _ = a * n + b := by rw [← hn]
        rwa [e] at this
      · rename_i h0 h1
        have := Tr.get_build d _ _ _ x h
        simp only [Nat.mul_eq, Nat.add_eq] at this
        have e : 2 * a * (n / 2 - 1) + (2 * a + b) = a * n + b := by
          have hn : n = 2 * (n / 2 - 1) + 2 := by omega
          calc 2 * a * (n / 2 - 1) + (2 * a + b) = a * (2 * (n / 2 - 1) + 2) + b := by
                rw [Nat.mul_add, Nat.mul_comm 2 a, Nat.mul_assoc, Nat.mul_comm a 2]
                omega
            _ = a * n + b := by rw [← hn]
        rwa [e] at this
def TI.of (t u : TypeInfo) : TI := { desc := u.desc, size := t.size, bytes := t.bytes, zero := t.zero }
def zeroOk : Option Value → Bool
  | some z => plain z
  | none => true
def tyOf (P : Program) (t : Nat) : Option TI :=
  match P.info? t with
  | some i => match P.info? (P.underlyingId t) with
    | some u => cond (zeroOk i.zero) (some (TI.of i u)) none
    | none => none
  | none => none
theorem tyOf_ok {P : Program} {t : Nat} {i : TI} (h : tyOf P t = some i) : TyOk P t i := by
  unfold tyOf at h
  split at h
  · rename_i a ha
    split at h
    · rename_i u hu
      cases hz : zeroOk a.zero with
      | false => rw [hz, cond_false] at h; cases h
      | true =>
        rw [hz, cond_true] at h
        injection h with h
        subst h
        refine ⟨?_, ⟨a, ha, rfl, rfl, rfl⟩, ?_⟩
        · unfold Program.underlyingId at hu
          unfold Program.underlying
          rw [ha] at hu ⊢
          obtain ⟨desc, str, size, bytes, hp, al, fal, zero, comp, meths⟩ := a
          cases desc with
          | named n u' =>
            have hu' : P.info? u' = some u := hu
            show (P.info? u').map (·.desc) = some u.desc
            rw [hu']
            rfl
          | _ =>
            have hu' : P.info? t = some u := hu
            rw [ha] at hu'
            injection hu' with hu'
            subst hu'
            rfl
        · intro z hz'
          change a.zero = some z at hz'
          rw [hz'] at hz
          exact hz
    · cases h
  · cases h
theorem tys_ok {cx : Ctx} {d : Nat} (h : cx.ty = Tr.build (tyOf cx.P) d 1 0) : TysOk cx := by
  intro t i hi
  rw [h] at hi
  have := Tr.get_build d 1 0 t i hi
  rw [Nat.one_mul, Nat.add_zero] at this
  exact tyOf_ok this
def AllAt {α : Type} (Pr : α → Prop) : Tr α → Prop
  | .leaf => True
  | .node l v r => AllAt Pr l ∧ (∀ x, v = some x → Pr x) ∧ AllAt Pr r
theorem AllAt.get {α : Type} {Pr : α → Prop} : ∀ {t : Tr α} {n : Nat} {x : α}, AllAt Pr t → t.get n = some x → Pr x
  | .leaf, n, x, _, h => by rw [Tr.get_leaf] at h; cases h
  | .node l v r, n, x, ha, h => by
    rw [Tr.get_node] at h
    split at h
    · exact ha.2.1 x h
    · split at h
      · exact AllAt.get ha.1 h
      · exact AllAt.get ha.2.2 h
theorem AllAt.leaf {α : Type} {Pr : α → Prop} : AllAt Pr .leaf := trivial
theorem AllAt.none {α : Type} {Pr : α → Prop} {l r : Tr α} (hl : AllAt Pr l) (hr : AllAt Pr r) : AllAt Pr (.node l none r) := ⟨hl, fun _ h => (by cases h), hr⟩
theorem AllAt.some {α : Type} {Pr : α → Prop} {l r : Tr α} {x : α} (hl : AllAt Pr l) (h : Pr x) (hr : AllAt Pr r) : AllAt Pr (.node l (some x) r) := ⟨hl, fun y e => (by cases e; exact h), hr⟩
theorem fns_ok {cx : Ctx} {d : Nat} (h : cx.fn = Tr.build (fun i => cx.P.funcs[i]?) d 1 0) (hb : AllAt (fun fn => bodyOk cx.P.globals.size fn = true) cx.fn) : FnsOk cx := by
  intro f fn hf
  have h2 := hb.get hf
  rw [h] at hf
  have := Tr.get_build d 1 0 f fn hf
  rw [Nat.one_mul, Nat.add_zero] at this
  exact ⟨this, h2⟩
end
end Go.Sym
namespace Go.Sym
open Go
noncomputable section
set_option maxRecDepth 20000
def belowO (n : Nat) : Option Addr → Bool
  | some a => Nat.blt a.block n
  | none => true
def belowR (n : Nat) : Option Nat → Bool
  | some i => Nat.blt i n
  | none => true
mutual
def belowV (n c : Nat) : Value → Bool
  | .pointer a => belowO n a
  | .slice a _ k => belowO n a && (Nat.blt k capBase || Nat.blt (Nat.sub k capBase) c)
  | .map r => belowR n r
  | .chan r => belowR n r
  | .func _ x y => belowA n c x && belowA n c y
  | .iface _ v => belowV n c v
  | .agg cs => belowA n c cs
  | .tuple cs => belowA n c cs
  | _ => true
def belowA (n c : Nat) : Array Value → Bool
  | ⟨l⟩ => belowL n c l
def belowL (n c : Nat) : List Value → Bool
  | [] => true
  | v :: r => belowV n c v && belowL n c r
end
theorem blk_cut {η : Env} {n c i : Nat} (h : i < n) (e : (η.blk i).isSome) : ((cut η n c).blk i).isSome := by
  show (if i < n then η.blk i else none).isSome
  rw [if_pos h]
  exact e
theorem cap_cut {η : Env} {n c i : Nat} (h : i < c) (e : (η.cap i).isSome) : ((cut η n c).cap i).isSome := by
  show (if i < c then η.cap i else none).isSome
  rw [if_pos h]
  exact e
mutual
theorem below_ok {η : Env} {n c : Nat} : ∀ v, belowV n c v = true → ok η v → ok (cut η n c) v
  | .pointer a, hb, h => by
    simp only [ok] at h ⊢
    intro x hx
    subst hx
    simp only [belowV, belowO, Nat.blt_eq] at hb
    exact blk_cut hb (h x rfl)
  | .slice a m k, hb, h => by
    simp only [ok] at h ⊢
    simp only [belowV, Bool.and_eq_true, Bool.or_eq_true, Nat.blt_eq] at hb
    refine ⟨fun x hx => ?_, ?_⟩
    · subst hx
      have := hb.1
      simp only [belowO, Nat.blt_eq] at this
      exact blk_cut this (h.1 x rfl)
    · rcases hb.2 with h2 | h2
      · exact .inl h2
      · rcases h.2 with h3 | h3
        · exact .inl h3
        · exact .inr (cap_cut h2 h3)
  | .map r, hb, h => by
    simp only [ok] at h ⊢
    intro x hx
    subst hx
    simp only [belowV, belowR, Nat.blt_eq] at hb
    exact blk_cut hb (h x rfl)
  | .chan r, hb, h => by
    simp only [ok] at h ⊢
    intro x hx
    subst hx
    simp only [belowV, belowR, Nat.blt_eq] at hb
    exact blk_cut hb (h x rfl)
  | .func _ x y, hb, h => by
    simp only [ok] at h ⊢
    simp only [belowV, Bool.and_eq_true] at hb
    exact ⟨belowA_ok x hb.1 h.1, belowA_ok y hb.2 h.2⟩
  | .iface _ v, hb, h => by
    simp only [ok] at h ⊢
    simp only [belowV] at hb
    exact below_ok v hb h
  | .agg cs, hb, h => by
    simp only [ok] at h ⊢
    simp only [belowV] at hb
    exact belowA_ok cs hb h
  | .tuple cs, hb, h => by
    simp only [ok] at h ⊢
    simp only [belowV] at hb
    exact belowA_ok cs hb h
  | .bool _, _, _ | .int _ _, _, _ | .float _ _, _, _ | .complex _ _ _, _, _ | .string _, _, _ | .nilFunc, _, _ | .nilIface, _, _ => by simp [ok]
theorem belowA_ok {η : Env} {n c : Nat} : ∀ a, belowA n c a = true → okA η a → okA (cut η n c) a
  | ⟨l⟩, hb, h => by
    simp only [okA] at h ⊢
    simp only [belowA] at hb
    exact belowL_ok l hb h
theorem belowL_ok {η : Env} {n c : Nat} : ∀ l, belowL n c l = true → okL η l → okL (cut η n c) l
  | [], _, _ => by simp [okL]
  | v :: r, hb, h => by
    simp only [okL] at h ⊢
    simp only [belowL, Bool.and_eq_true] at hb
    exact ⟨below_ok v hb.1 h.1, belowL_ok r hb.2 h.2⟩
end
def capOf : SObj → Nat → Bool
  | .opn _ _ _ k, c => Nat.blt k c
  | _, _ => true
def rowsBelow (rows : Tr SObj) (n c : Nat) : List (Nat × Nat) → Bool
  | [] => true
  | p :: r => Nat.blt p.1 n && (match rows.get p.2 with
    | some o => belowL n c o.cells && capOf o c
    | none => true) && rowsBelow rows n c r
def capsBelow (c : Nat) : List (Nat × Nat) → Bool
  | [] => true
  | p :: r => Nat.blt p.1 c && capsBelow c r
def refs : List (Nat × Nat) → Tr SRef → Tr SRef
  | [], t => t
  | p :: r, t => refs r (t.set p.1 (some (.ref p.2)))
def capsOf : List (Nat × Nat) → Tr Nat → Tr Nat
  | [], t => t
  | p :: r, t => capsOf r (t.set p.1 (some p.2))
def stOf (e : Known) : St := { next := e.next, nextC := e.nextC, mem := refs e.rows .leaf, caps := capsOf e.caps .leaf, low := topName }
def endsAs (e : Known) : Option Out → Bool
  | some out => (match out.a.t.get 0 with
    | some v => eqV v e.val
    | none => false) && Nat.ble e.next out.σ.low
  | none => false
def checkEntry (cx : Ctx) (g fuel : Nat) (f : FuncId) (e : Known) : Bool :=
  plain e.val && belowL e.next e.nextC e.args && rowsBelow cx.rows e.next e.nextC e.rows && capsBelow e.nextC e.caps && Nat.ble g e.next && Nat.ble e.next topName && Nat.ble e.nextC topName &&
  endsAs e (run cx fuel (.call f e.args) ⟨0, .leaf⟩ (stOf e))
theorem refs_get : ∀ (l : List (Nat × Nat)) (t : Tr SRef) (i : Nat) (x : SRef), (∀ p ∈ l, p.1 < topName) → (refs l t).get i = some x → (∃ p ∈ l, p.1 = i ∧ x = .ref p.2) ∨ t.get i = some x
  | [], t, i, x, _, h => .inr h
  | p :: r, t, i, x, hl, h => by
    rcases refs_get r _ i x (fun q hq => hl q (List.mem_cons_of_mem _ hq)) h with ⟨q, hq, h1, h2⟩ | h
    · exact .inl ⟨q, List.mem_cons_of_mem _ hq, h1, h2⟩
    · rw [Tr.get_set] at h
      split at h
      · rename_i e
        injection h with h
        exact .inl ⟨p, List.mem_cons_self, e.symm, h.symm⟩
      · exact .inr h
theorem capsOf_get : ∀ (l : List (Nat × Nat)) (t : Tr Nat) (i : Nat) (x : Nat), (∀ p ∈ l, p.1 < topName) → (capsOf l t).get i = some x → (i, x) ∈ l ∨ t.get i = some x
  | [], t, i, x, _, h => .inr h
  | p :: r, t, i, x, hl, h => by
    rcases capsOf_get r _ i x (fun q hq => hl q (List.mem_cons_of_mem _ hq)) h with h | h
    · exact .inl (List.mem_cons_of_mem _ h)
    · rw [Tr.get_set] at h
      split at h
      · rename_i e
        have h2 := Option.some.inj h
        subst e
        subst h2
        exact .inl List.mem_cons_self
      · exact .inr h
theorem rowsBelow_at {rows : Tr SObj} {n c : Nat} : ∀ {l : List (Nat × Nat)}, rowsBelow rows n c l = true → ∀ p ∈ l, p.1 < n ∧ ∀ o, rows.get p.2 = some o → belowL n c o.cells = true ∧ capOf o c = true
  | [], _, p, hp => by cases hp
  | q :: r, h, p, hp => by
    simp only [rowsBelow, Bool.and_eq_true, Nat.blt_eq] at h
    rcases List.mem_cons.1 hp with rfl | hp
    · refine ⟨h.1.1, fun o ho => ?_⟩
      have := h.1.2
      rw [ho] at this
      simpa using this
    · exact rowsBelow_at h.2 p hp
theorem capsBelow_at {c : Nat} : ∀ {l : List (Nat × Nat)}, capsBelow c l = true → ∀ p ∈ l, p.1 < c
  | [], _, p, hp => by cases hp
  | q :: r, h, p, hp => by
    simp only [capsBelow, Bool.and_eq_true, Nat.blt_eq] at h
    rcases List.mem_cons.1 hp with rfl | hp
    · exact h.1
    · exact capsBelow_at h.2 p hp
theorem den_cut {η : Env} {n c : Nat} {w : World} {o : SObj} {b : Nat} (hc : ∀ x ∈ o.cells, ok (cut η n c) x) (hk : capOf o c = true) (h : o.den η w b) : o.den (cut η n c) w b := by
  have hm : ∀ cs : List Value, (∀ x ∈ cs, ok (cut η n c) x) → cs.map (ren η) = cs.map (ren (cut η n c)) := fun cs hcs => List.map_congr_left fun x hx => ren_ext cut_ext x (hcs x hx)
  cases o with
  | row cs e =>
    simp only [SObj.den] at h ⊢
    rw [h, hm cs hc]
  | opn cs e s k =>
    obtain ⟨cur, h1, h2, h3, h4, h5⟩ := h
    have hlt : k < c := by simpa [capOf, Nat.blt_eq] using hk
    have hs := cap_cut (n := n) hlt h5
    exact ⟨cur, h1, by rw [h2, cut_ext.c hs], by rw [h3, hm cs hc], h4, hs⟩
  | ro cs => exact ⟨h.1, fun j v hv => by rw [h.2 j v hv, ren_ext cut_ext v (hc v (List.mem_of_getElem? hv))]⟩
theorem entry_sound {cx : Ctx} (hC : CtxOk cx) {fuel : Nat} {f : FuncId} {e : Known} (h : checkEntry cx cx.P.globals.size fuel f e = true) : Knows cx.P cx.rows f e := by
  simp only [checkEntry, Bool.and_eq_true] at h
  obtain ⟨⟨⟨⟨⟨⟨⟨hp, ha⟩, hr⟩, hcp⟩, hg⟩, hn⟩, hnC⟩, hrun⟩ := h
  have hg := Nat.le_of_ble_eq_true hg
  have hn := Nat.le_of_ble_eq_true hn
  have hnC := Nat.le_of_ble_eq_true hnC
  have hra := rowsBelow_at hr
  have hca := capsBelow_at hcp
  refine ⟨hp, fun η w glob rows inj caps args => ?_⟩
  cases hout : run cx fuel (.call f e.args) ⟨0, .leaf⟩ (stOf e) with
  | none => rw [hout] at hrun; cases hrun
  | some out =>
    rw [hout] at hrun
    simp only [endsAs, Bool.and_eq_true] at hrun
    have hlow := Nat.le_of_ble_eq_true hrun.2
    have hlook : ∀ i o, look cx (stOf e) i = some o → ∃ p ∈ e.rows, p.1 = i ∧ cx.rows.get p.2 = some o := by
      intro i o ho
      unfold look at ho
      simp only [Option.bind_eq_some_iff] at ho
      obtain ⟨x, hx, ho⟩ := ho
      rcases refs_get e.rows .leaf i x (fun p hp => Nat.lt_of_lt_of_le (hra p hp).1 hn) hx with ⟨p, hp, h1, h2⟩ | h1
      · subst h2
        exact ⟨p, hp, h1, ho⟩
      · rw [Tr.get_leaf] at h1
        cases h1
    have hcapsg : ∀ k lo, (stOf e).caps.get k = some lo → (k, lo) ∈ e.caps := by
      intro k lo hk
      rcases capsOf_get e.caps .leaf k lo (fun p hp => Nat.lt_of_lt_of_le (hca p hp) hnC) hk with h1 | h1
      · exact h1
      · rw [Tr.get_leaf] at h1
        cases h1
    have hwf : WF (vw cx (stOf e)) := by
      refine ⟨fun i o ho => ?_, fun k lo hk => hca _ (hcapsg k lo hk)⟩
      obtain ⟨p, hp, h1, _⟩ := hlook i o ho
      show i < e.next
      rw [← h1]
      exact (hra p hp).1
    have hd : Den cx.P Every (vw cx (stOf e)) (cut η e.next e.nextC) w :=
      { glob := fun g hg' => by
          show (if g < e.next then η.blk g else none) = some g
          rw [if_pos (by omega), glob g hg']
        obj := fun i o b _ ho hb => by
          obtain ⟨p, hp, h1, h2⟩ := hlook i o ho
          subst h1
          obtain ⟨h3, h4⟩ := rows p hp o b h2 (cut_ext.blk _ b hb)
          obtain ⟨h5, h6⟩ := (hra p hp).2 o h2
          have hcells := (okL_iff o.cells).1 (belowL_ok (η := η) o.cells h5 ((okL_iff _).2 h3))
          exact ⟨hcells, den_cut hcells h6 h4⟩
        inj := fun i j o o' b _ _ hi hj ei ej => by
          obtain ⟨p, hp, h1, h2⟩ := hlook i o hi
          obtain ⟨q, hq, h3, h4⟩ := hlook j o' hj
          subst h1 h3
          exact inj p hp q hq o o' b h2 h4 (cut_ext.blk _ b ei) (cut_ext.blk _ b ej)
        caps := fun k lo c hk hc => caps (k, lo) (hcapsg k lo hk) c (cut_ext.cap _ c hc)
        dom := fun i hi => by
          change e.next ≤ i at hi
          show (if i < e.next then η.blk i else none) = none
          rw [if_neg (by omega)]
        domC := fun i hi => by
          change e.nextC ≤ i at hi
          show (if i < e.nextC then η.cap i else none) = none
          rw [if_neg (by omega)] }
    have hargs : ∀ x ∈ e.args, ok (cut η e.next e.nextC) x := (okL_iff e.args).1 (belowL_ok (η := η) e.args ha ((okL_iff _).2 args))
    have hmap : e.args.map (ren η) = e.args.map (ren (cut η e.next e.nextC)) := List.map_congr_left fun x hx => ren_ext cut_ext x (hargs x hx)
    rw [hmap]
    refine ((run_sound hC fuel).2.2.2.2 f e.args _ _ out hout (cut η e.next e.nextC) w hwf hd hargs).mono fun en w' hen => ?_
    obtain ⟨η', v, rfl, hget, hok, _, hk, _⟩ := hen
    rw [hget] at hrun
    have hv := eqV_eq v e.val hrun.1
    subst hv
    rw [ren_plain η' _ hp]
    refine ⟨rfl, hk.os, hk.tape, hk.output, hk.size, fun k hlt => hk.frame k hlt fun i hi => ?_⟩
    obtain ⟨h1, o, h2, _⟩ := hi
    have h3 : i < e.next := hwf.lt i o h2
    have h4 : out.σ.low ≤ i := h1
    omega
def AllIx {α : Type} (Pr : Nat → α → Prop) : Tr α → Nat → Nat → Prop
  | .leaf, _, _ => True
  | .node l v r, a, b => AllIx Pr l (2 * a) (a + b) ∧ (∀ x, v = some x → Pr b x) ∧ AllIx Pr r (2 * a) (2 * a + b)
theorem AllIx.get {α : Type} {Pr : Nat → α → Prop} : ∀ {t : Tr α} {a b n : Nat} {x : α}, AllIx Pr t a b → t.get n = some x → Pr (a * n + b) x
  | .leaf, a, b, n, x, _, h => by rw [Tr.get_leaf] at h; cases h
  | .node l v r, a, b, n, x, ha, h => by
    rw [Tr.get_node] at h
    split at h
    · rename_i h0
      rw [h0, Nat.mul_zero, Nat.zero_add]
      exact ha.2.1 x h
    · split at h
      · rename_i h1
        have := AllIx.get ha.1 h
        have e : 2 * a * (n / 2) + (a + b) = a * n + b := by
          have hn : n = 2 * (n / 2) + 1 := by omega
          calc 2 * a * (n / 2) + (a + b) = a * (2 * (n / 2) + 1) + b := by
                rw [Nat.mul_add, Nat.mul_one, Nat.mul_comm 2 a, Nat.mul_assoc]
                omega
            _ = a * n + b := by rw [← hn]
        rwa [e] at this
      · rename_i h0 h1
        have := AllIx.get ha.2.2 h
        have e : 2 * a * (n / 2 - 1) + (2 * a + b) = a * n + b := by
          have hn : n = 2 * (n / 2 - 1) + 2 := by omega
          calc 2 * a * (n / 2 - 1) + (2 * a + b) = a * (2 * (n / 2 - 1) + 2) + b := by
                rw [Nat.mul_add, Nat.mul_comm 2 a, Nat.mul_assoc, Nat.mul_comm a 2]
                omega
            _ = a * n + b := by rw [← hn]
        rwa [e] at this
def KnowsAll (P : Program) (rows : Tr SObj) (f : Nat) : List Known → Prop
  | [] => True
  | e :: r => Knows P rows f e ∧ KnowsAll P rows f r
theorem KnowsAll.mem {P : Program} {rows : Tr SObj} {f : Nat} : ∀ {l : List Known}, KnowsAll P rows f l → ∀ e ∈ l, Knows P rows f e
  | [], _, e, he => by cases he
  | a :: r, h, e, he => by
    rcases List.mem_cons.1 he with rfl | he
    · exact h.1
    · exact h.2.mem e he
theorem AllIx.leaf {α : Type} {Pr : Nat → α → Prop} {a b : Nat} : AllIx Pr .leaf a b := trivial
theorem AllIx.none {α : Type} {Pr : Nat → α → Prop} {l r : Tr α} {a b : Nat} (hl : AllIx Pr l (2 * a) (a + b)) (hr : AllIx Pr r (2 * a) (2 * a + b)) : AllIx Pr (.node l none r) a b := ⟨hl, fun _ h => (by cases h), hr⟩
theorem AllIx.some {α : Type} {Pr : Nat → α → Prop} {l r : Tr α} {x : α} {a b : Nat} (hl : AllIx Pr l (2 * a) (a + b)) (h : Pr b x) (hr : AllIx Pr r (2 * a) (2 * a + b)) : AllIx Pr (.node l (some x) r) a b :=
  ⟨hl, fun y e => (by cases e; exact h), hr⟩
theorem known_ok {cx : Ctx} (h : AllIx (KnowsAll cx.P cx.rows) cx.known 1 0) : KnownOk cx := by
  intro f l hl e he
  have := h.get hl
  rw [Nat.one_mul, Nat.add_zero] at this
  exact this.mem e he
end
end Go.Sym
