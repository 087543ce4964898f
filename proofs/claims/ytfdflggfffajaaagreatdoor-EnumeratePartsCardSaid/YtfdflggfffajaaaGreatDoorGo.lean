/- A judgement over the executor for inputs that are not written out. -/
import Derived.Test.YtfdflggfffajaaaGreatDoorBaseC
set_option linter.unusedVariables false
set_option linter.unusedSimpArgs false
set_option linter.unusedSectionVars false
namespace Go.Sym
open Go
noncomputable section
def Le (rc rc' : Rec) : Prop := ∀ t a σ r, rc t a σ = some r → rc' t a σ = some r
theorem bind_mono {α β : Type} {x x' : Option α} {f f' : α → Option β} {r : β} (h : x.bind f = some r) (hx : ∀ y, x = some y → x' = some y) (hf : ∀ y, f y = some r → f' y = some r) : x'.bind f' = some r := by
  cases x with
  | none => cases h
  | some y =>
    rw [hx y rfl]
    exact hf y h
theorem stepSeq_mono {rc rc' : Rec} (h : Le rc rc') {y : Code} {x r : Out} (e : stepSeq rc y x = some r) : stepSeq rc' y x = some r := by
  unfold stepSeq at e ⊢
  split at e
  · exact h _ _ _ _ e
  · exact e
theorem stepCond_mono {rc rc' : Rec} (h : Le rc rc') {x y : Code} {a : Fr} {σ : St} {v : Value} {r : Out} (e : stepCond rc x y a σ v = some r) : stepCond rc' x y a σ v = some r := by
  unfold stepCond at e ⊢
  split at e
  · exact h _ _ _ _ e
  · cases e
theorem stepAgain_mono {rc rc' : Rec} (h : Le rc rc') {x : Code} {o r : Out} (e : stepAgain rc x o = some r) : stepAgain rc' x o = some r := by
  unfold stepAgain at e ⊢
  split at e
  · exact h _ _ _ _ e
  · exact e
theorem stepCode_mono {rc rc' : Rec} (h : Le rc rc') {c : Code} {a : Fr} {σ : St} {r : Out} (e : stepCode rc c a σ = some r) : stepCode rc' c a σ = some r := by
  unfold stepCode at e ⊢
  split at e <;> try exact e
  · exact h _ _ _ _ e
  · exact bind_mono e (fun y => h _ _ _ y) fun y => stepSeq_mono h
  · exact stepCond_mono h e
  · exact bind_mono e (fun y => h _ _ _ y) fun y hy => hy
  · exact h _ _ _ _ e
theorem stepOper_mono {cx : Ctx} {rc rc' : Rec} (h : Le rc rc') {a : Fr} {σ : St} {x : Option Res} {r : Value × St} (e : stepOper cx rc a σ x = some r) : stepOper cx rc' a σ x = some r := by
  unfold stepOper at e ⊢
  split at e
  · exact e
  · split at e
    · exact e
    · exact bind_mono e (fun y => h _ _ _ y) fun y hy => hy
  · cases e
theorem stepOps_mono {cx : Ctx} {rc rc' : Rec} (h : Le rc rc') {draw : Bool} {all : Array Oper} {i : Nat} {fs : List (Nat × FP)} {l : List Oper} {a : Fr} {σ : St} {r : Out}
    (e : stepOps cx rc draw all i fs l a σ = some r) : stepOps cx rc' draw all i fs l a σ = some r := by
  unfold stepOps at e ⊢
  split at e
  · exact e
  · rename_i o rest
    split at e
    · cases draw with
      | true =>
        rw [cond_true] at e
        split at e
        · rename_i v σ' fs' hq
          have : ((stepOper cx rc' a { σ with low := σ.next } (symOp cx a { σ with low := σ.next } o)).bind (stepDraw all i o a σ fs)) = some (v, σ', fs') :=
            bind_mono hq (fun y => stepOper_mono h) fun y hy => hy
          rw [cond_true, this]
          exact h _ _ _ _ e
        · cases e
      | false =>
        rw [cond_false] at e
        split at e
        · rename_i v σ' fs' hq
          have : ((stepOper cx rc' a σ (symOp cx a σ o)).bind stepFps) = some (v, σ', fs') :=
            bind_mono hq (fun y => stepOper_mono h) fun y hy => hy
          rw [cond_false, this]
          exact h _ _ _ _ e
        · cases e
    · exact h _ _ _ _ e
theorem stepTask_mono {cx : Ctx} {rc rc' : Rec} (h : Le rc rc') : Le (stepTask cx rc) (stepTask cx rc') := by
  intro t a σ r e
  unfold stepTask at e ⊢
  split at e
  · exact stepCode_mono h e
  · exact bind_mono e (fun y => h _ _ _ y) fun y => stepAgain_mono h
  · exact stepOps_mono h e
  · unfold stepCall at e ⊢
    split at e
    · unfold stepBody at e ⊢
      split at e
      · rename_i fn _ _ c _
        generalize Nat.ble _ fn.ntmps = b at e ⊢
        cases b
        · cases e
        · exact bind_mono e (fun y => h _ _ _ y) fun y hy => hy
      · cases e
    · cases e
theorem run_le {cx : Ctx} : ∀ k, Le (run cx k) (run cx (k + 1))
  | 0 => fun _ _ _ _ h => by cases h
  | k + 1 => stepTask_mono (run_le k)
theorem run_mono {cx : Ctx} {k m : Nat} (h : k ≤ m) : Le (run cx k) (run cx m) := by
  induction h with
  | refl => exact fun _ _ _ _ h => h
  | step _ ih => exact fun t a σ r e => run_le _ t a σ r (ih t a σ r e)
def setF (g : Nat → Value) (d : Nat) (v : Value) : Nat → Value := fun t => if t = d then v else g t
def setO (g : Nat → Value) : Option Nat → Value → Nat → Value
  | some d, v => setF g d v
  | none, _ => g
def ev (g : Nat → Value) : Operand → Value
  | .tmp t => g t
  | .const v => v
  | .global k => .pointer (some ⟨k, 0, none⟩)
  | .func f => .func (.func f) #[] #[]
structure Fr.Is (a : Fr) (n : Nat) (g : Nat → Value) : Prop where
  len : a.n = n
  big : n ≤ 1000000
  v : ∀ t, a.eval (.tmp t) = g t
theorem Fr.Is.ev {a : Fr} {n : Nat} {g : Nat → Value} (h : a.Is n g) (x : Operand) : a.eval x = Sym.ev g x := by
  cases x with
  | tmp t => exact h.v t
  | _ => rfl
theorem Fr.Is.eval {a : Fr} {n : Nat} {g : Nat → Value} (h : a.Is n g) : a.eval = Sym.ev g := funext h.ev
theorem Fr.Is.put {a : Fr} {n : Nat} {g : Nat → Value} (h : a.Is n g) (d : Option Nat) (v : Value) (hd : ∀ x, d = some x → x < n) : (a.put d v).Is n (setO g d v) := by
  cases d with
  | none => exact h
  | some d =>
    have hlt : d < n := hd d rfl
    obtain ⟨m, t⟩ := a
    obtain ⟨hn, hb, hv⟩ := h
    change m = n at hn
    subst hn
    have e : Fr.put ⟨m, t⟩ (some d) v = ⟨m, t.put deep d (some v)⟩ := by
      show cond (Nat.ble (Nat.succ d) m) _ _ = _
      rw [Nat.ble_eq_true_of_le hlt, cond_true]
    rw [e]
    refine ⟨rfl, hb, fun x => ?_⟩
    show orUndef ((t.put deep d (some v)).get x) = if x = d then v else g x
    rw [Tr.get_put _ _ _ _ _ (small_deep (by omega))]
    by_cases hx : x = d
    · rw [if_pos hx, if_pos hx]; rfl
    · rw [if_neg hx, if_neg hx]
      exact hv x
def opCallE (cx : Ctx) (e : Operand → Value) (σ : St) (c : Call) (type : TypeId) : Option Res :=
  match c.callee with
  | .builtin .len => callLen cx σ c.argTypes.toList (c.args.toList.map e)
  | .builtin .cap => callCap cx σ c.argTypes.toList (c.args.toList.map e)
  | .builtin .append => callAppend cx σ c.argTypes.toList (c.args.toList.map e)
  | .builtin .copy => callCopy cx σ c.argTypes.toList (c.args.toList.map e)
  | .builtin b => callMinMax cx σ b c type (c.args.toList.map e)
  | .value f => callValue cx σ (c.args.toList.map e) (e f)
  | _ => none
def symOpE (cx : Ctx) (e : Operand → Value) (σ : St) (o : Op) (type : TypeId) : Option Res :=
  match o with
  | .move x | .assign x => some (.val (e x) σ)
  | .pick c x y => opPick σ (e c) (e x) (e y)
  | .alloc t => opAlloc cx σ t
  | .box t x => opBox σ t (e x)
  | .build t ps => val σ (opBuild cx t (ps.toList.map fun p => (p.1, e p.2)))
  | .buildSlice t n ps => opBuildSlice cx σ t n (ps.toList.map fun p => (p.1, e p.2))
  | .load t x => opLoad cx σ t (e x)
  | .store t x y => opStore cx σ t (e x) (e y)
  | .nilCheck x => opNilCheck σ (e x)
  | .binOp op t x y _ => val σ (opBin cx op t x y (e x) (e y))
  | .unOp op _ x => opUn cx σ op (e x)
  | .convert s d x => opConv cx σ s d (e x)
  | .makeFunc fn first captured => some (.val (.func fn (first.map e) (captured.map e)) σ)
  | .makeSlice t l c => opMakeSlice cx σ t (e l) (e c)
  | .slice t x lo hi mx => opSlice cx σ t (e x) (lo.map e) (hi.map e) (mx.map e)
  | .fieldAddr t x k => val σ (opFieldAddr cx t (e x) k)
  | .field t x k => val σ (opField cx t (e x) k)
  | .indexAddr t x ix => val σ (opIndexAddr cx t (e x) (e ix))
  | .index t x ix => val σ (opIndex cx t (e x) (e ix))
  | .extract x k => opExtract σ k (e x)
  | .call c => opCallE cx e σ c type
  | _ => none
theorem symOp_eq {cx : Ctx} {a : Fr} {σ : St} (o : Oper) : symOp cx a σ o = symOpE cx a.eval σ o.op o.type := by
  unfold symOp symOpE
  cases o.op <;> rfl
def fpE (e : Operand → Value) (next low : Nat) (o : Op) : FP :=
  match o with
  | .load _ x => .part (blockOf (e x)) [] false
  | .store _ x _ => .part [] (blockOf (e x)) false
  | .call { callee := .builtin .append, args, .. } =>
    match args.toList with
    | s :: x :: _ => .part (blockOf (e s) ++ blockOf (e x)) (cond (Nat.blt low next) (blockOf (e s)) []) true
    | _ => .all true
  | .call { callee := .builtin .copy, args, .. } =>
    match args.toList with
    | d :: x :: _ => .part (blockOf (e x)) (blockOf (e d)) false
    | _ => .all true
  | op => cond (isFree op) (.part [] [] false) (cond (isMake op) (.part [] [] true) (.all (Nat.blt low next)))
theorem fpOf_eq {a : Fr} {next low : Nat} (o : Oper) : fpOf a next low o = fpE a.eval next low o.op := by
  unfold fpOf fpE
  rfl
abbrev Post := SExit → (Nat → Value) → St → Prop
def H (cx : Ctx) (t : Task) (n : Nat) (g : Nat → Value) (σ : St) (Q : Post) : Prop :=
  ∀ a : Fr, a.Is n g → ∃ k r g', run cx k t a σ = some r ∧ r.a.Is n g' ∧ Q r.ex g' r.σ
variable {cx : Ctx} {n : Nat} {g : Nat → Value} {σ : St} {Q : Post}
theorem H.mono {t : Task} {Q' : Post} (h : H cx t n g σ Q) (hq : ∀ e g σ, Q e g σ → Q' e g σ) : H cx t n g σ Q' := fun a ha => by
  obtain ⟨k, r, g', h1, h2, h3⟩ := h a ha
  exact ⟨k, r, g', h1, h2, hq _ _ _ h3⟩
theorem H_skip (h : Q .normal g σ) : H cx (.code .skip) n g σ Q := fun a ha => ⟨1, _, g, rfl, ha, h⟩
theorem H_exit {id : Nat} (h : Q (.exit id) g σ) : H cx (.code (.exit id)) n g σ Q := fun a ha => ⟨1, _, g, rfl, ha, h⟩
theorem H_ret (h : Q .ret g σ) : H cx (.code .ret) n g σ Q := fun a ha => ⟨1, _, g, rfl, ha, h⟩
def thenQ (cx : Ctx) (y : Code) (n : Nat) (Q : Post) : Post := fun e g σ =>
  match e with
  | .normal => H cx (.code y) n g σ Q
  | e => Q e g σ
theorem H_seq {x y : Code} (h : H cx (.code x) n g σ (thenQ cx y n Q)) : H cx (.code (.seq x y)) n g σ Q := fun a ha => by
  obtain ⟨k, r, g', h1, h2, h3⟩ := h a ha
  have key : ∀ m, k ≤ m → run cx (m + 1) (.code (.seq x y)) a σ = stepSeq (run cx m) y r := fun m hm => by
    show ((run cx m (.code x) a σ).bind (stepSeq (run cx m) y)) = _
    rw [run_mono hm _ _ _ _ h1]; rfl
  cases he : r.ex with
  | normal =>
    rw [he] at h3
    obtain ⟨k', r', g'', h4, h5, h6⟩ := h3 r.a h2
    refine ⟨max k k' + 1, r', g'', ?_, h5, h6⟩
    rw [key _ (Nat.le_max_left _ _)]
    unfold stepSeq
    rw [he]
    exact run_mono (Nat.le_max_right k k') _ _ _ _ h4
  | exit i =>
    rw [he] at h3
    refine ⟨k + 1, r, g', ?_, h2, by rw [he]; exact h3⟩
    rw [key _ (Nat.le_refl k)]
    unfold stepSeq
    rw [he]
  | ret =>
    rw [he] at h3
    refine ⟨k + 1, r, g', ?_, h2, by rw [he]; exact h3⟩
    rw [key _ (Nat.le_refl k)]
    unfold stepSeq
    rw [he]
theorem H_cond {c : Operand} {x y : Code} {b : Bool} (hc : ev g c = .bool b) (h : H cx (.code (cond b x y)) n g σ Q) : H cx (.code (.cond c x y)) n g σ Q := fun a ha => by
  obtain ⟨k, r, g', h1, h2, h3⟩ := h a ha
  refine ⟨k + 1, r, g', ?_, h2, h3⟩
  show stepCond (run cx k) x y a σ (a.eval c) = _
  rw [ha.ev, hc]
  exact h1
theorem H_if {c : Operand} {x y : Code} (P : Prop) [Decidable P] (hc : ev g c = .bool (decide P)) (h1 : P → H cx (.code x) n g σ Q) (h2 : ¬ P → H cx (.code y) n g σ Q) : H cx (.code (.cond c x y)) n g σ Q := by
  refine H_cond hc ?_
  by_cases h : P
  · rw [decide_eq_true h]; exact h1 h
  · rw [decide_eq_false h]; exact h2 h
def blockQ (id : Nat) (Q : Post) : Post := fun e g σ =>
  match e with
  | .exit j => if j = id then Q .normal g σ else Q (.exit j) g σ
  | e => Q e g σ
theorem H_block {id : Nat} {x : Code} (h : H cx (.code x) n g σ (blockQ id Q)) : H cx (.code (.block id x)) n g σ Q := fun a ha => by
  obtain ⟨k, r, g', h1, h2, h3⟩ := h a ha
  have key : run cx (k + 1) (.code (.block id x)) a σ = stepBlock id r := by
    show ((run cx k (.code x) a σ).bind (stepBlock id)) = _
    rw [h1]; rfl
  cases he : r.ex with
  | exit j =>
    rw [he] at h3
    unfold stepBlock at key
    rw [he] at key
    simp only [blockQ] at h3
    by_cases hj : j = id
    · subst hj
      rw [if_pos rfl] at h3
      refine ⟨k + 1, _, g', key, ?_, ?_⟩
      · simpa using h2
      · simpa using h3
    · rw [if_neg hj] at h3
      have hb : Nat.beq j id = false := by
        cases hb : Nat.beq j id
        · rfl
        · exact absurd (Nat.eq_of_beq_eq_true hb) hj
      simp only [hb, cond_false] at key
      exact ⟨k + 1, r, g', key, h2, by rw [he]; exact h3⟩
  | normal =>
    rw [he] at h3
    unfold stepBlock at key
    rw [he] at key
    exact ⟨k + 1, r, g', key, h2, by rw [he]; exact h3⟩
  | ret =>
    rw [he] at h3
    unfold stepBlock at key
    rw [he] at key
    exact ⟨k + 1, r, g', key, h2, by rw [he]; exact h3⟩
def loopQ (I : Nat → (Nat → Value) → St → Prop) (m : Nat) (Q : Post) : Post := fun e g σ =>
  match e with
  | .normal => ∃ j, j < m ∧ I j g σ
  | e => Q e g σ
theorem H_again {x : Code} (I : Nat → (Nat → Value) → St → Prop) (h : ∀ m g σ, I m g σ → H cx (.code x) n g σ (loopQ I m Q)) : ∀ (m : Nat) (g : Nat → Value) (σ : St), I m g σ → H cx (.again x) n g σ Q := by
  intro m
  induction m using Nat.strongRecOn with
  | _ m ih =>
    intro g σ hi a ha
    obtain ⟨k, r, g', h1, h2, h3⟩ := h m g σ hi a ha
    have key : ∀ j, k ≤ j → run cx (j + 1) (.again x) a σ = stepAgain (run cx j) x r := fun j hj => by
      show ((run cx j (.code x) a σ).bind (stepAgain (run cx j) x)) = _
      rw [run_mono hj _ _ _ _ h1]; rfl
    cases he : r.ex with
    | normal =>
      rw [he] at h3
      obtain ⟨j, hj, hi'⟩ := h3
      obtain ⟨k', r', g'', h4, h5, h6⟩ := ih j hj g' r.σ hi' r.a h2
      refine ⟨max k k' + 1, r', g'', ?_, h5, h6⟩
      rw [key _ (Nat.le_max_left _ _)]
      unfold stepAgain
      rw [he]
      exact run_mono (Nat.le_max_right k k') _ _ _ _ h4
    | exit i =>
      rw [he] at h3
      refine ⟨k + 1, r, g', ?_, h2, by rw [he]; exact h3⟩
      rw [key _ (Nat.le_refl k)]
      unfold stepAgain
      rw [he]
    | ret =>
      rw [he] at h3
      refine ⟨k + 1, r, g', ?_, h2, by rw [he]; exact h3⟩
      rw [key _ (Nat.le_refl k)]
      unfold stepAgain
      rw [he]
theorem H_loop {x : Code} (I : Nat → (Nat → Value) → St → Prop) (m : Nat) (hi : I m g σ) (h : ∀ m g σ, I m g σ → H cx (.code x) n g σ (loopQ I m Q)) : H cx (.code (.loop x)) n g σ Q := fun a ha => by
  obtain ⟨k, r, g', h1, h2, h3⟩ := H_again I h m g σ hi a ha
  exact ⟨k + 1, r, g', h1, h2, h3⟩
theorem H_region {s : Nat} {ops : Array Oper} {d : Bool} (h : H cx (.ops d ops 0 [] ops.toList) n g σ Q) : H cx (.code (.region s ops d)) n g σ Q := fun a ha => by
  obtain ⟨k, r, g', h1, h2, h3⟩ := h a ha
  exact ⟨k + 1, r, g', h1, h2, h3⟩
theorem H_nil {d : Bool} {all : Array Oper} {i : Nat} {fs : List (Nat × FP)} (h : Q .normal g σ) : H cx (.ops d all i fs []) n g σ Q := fun a ha => ⟨1, _, g, rfl, ha, h⟩
theorem step_at {d : Bool} {all : Array Oper} {i : Nat} {fs : List (Nat × FP)} {op : Op} {dst : Option Tmp} {rest : List Oper} {o : Oper}
    {a : Fr} (ho : o.op = op ∧ o.dst = dst ∧ wantedS all a o = true) {fs' : List (Nat × FP)} {v : Value} {σ' : St} (hd : ∀ x, dst = some x → x < n)
    (ha : a.Is n g) (hs : ∃ k, (cond d ((stepOper cx (run cx k) a { σ with low := σ.next } (symOp cx a { σ with low := σ.next } o)).bind (stepDraw all i o a σ fs)) ((stepOper cx (run cx k) a σ (symOp cx a σ o)).bind stepFps)) = some (v, σ', fs'))
    (h : H cx (.ops d all (i + 1) fs' rest) n (setO g dst v) σ' Q) : ∃ k r g', run cx k (.ops d all i fs (o :: rest)) a σ = some r ∧ r.a.Is n g' ∧ Q r.ex g' r.σ := by
  obtain ⟨rfl, rfl, hw⟩ := ho
  obtain ⟨k, hs⟩ := hs
  obtain ⟨k', r, g', h1, h2, h3⟩ := h _ (ha.put o.dst v hd)
  refine ⟨max k k' + 1, r, g', ?_, h2, h3⟩
  show stepOps cx (run cx (max k k')) d all i fs (o :: rest) a σ = _
  have hm : (cond d ((stepOper cx (run cx (max k k')) a { σ with low := σ.next } (symOp cx a { σ with low := σ.next } o)).bind (stepDraw all i o a σ fs)) ((stepOper cx (run cx (max k k')) a σ (symOp cx a σ o)).bind stepFps)) = some (v, σ', fs') := by
    cases d with
    | true => exact bind_mono hs (fun y => stepOper_mono (run_mono (Nat.le_max_left _ _))) fun y hy => hy
    | false => exact bind_mono hs (fun y => stepOper_mono (run_mono (Nat.le_max_left _ _))) fun y hy => hy
  unfold stepOps
  simp only [hw, hm]
  exact run_mono (Nat.le_max_right _ _) _ _ _ _ h1
def dstOk (n : Nat) : Option Tmp → Bool
  | some d => Nat.blt d n
  | none => true
theorem dstOk_lt {n : Nat} {dst : Option Tmp} (h : dstOk n dst = true) : ∀ x, dst = some x → x < n := fun x e => by
  subst e
  simpa [dstOk, Nat.blt_eq] using h
section
variable {all : Array Oper} {i : Nat} {fs : List (Nat × FP)} {op : Op} {dst : Option Tmp} {type : TypeId} {after : Array Edge} {pos : String} {rest : List Oper} {v : Value} {σ' : St}
theorem H_val (hs : symOpE cx (ev g) σ op type = some (.val v σ')) (hd : dstOk n dst = true) (h : H cx (.ops false all (i + 1) [] rest) n (setO g dst v) σ' Q) :
    H cx (.ops false all i fs (⟨dst, op, type, pos, after, none⟩ :: rest)) n g σ Q := fun a ha => by
  refine step_at (op := op) (dst := dst) ⟨rfl, rfl, rfl⟩ (fs' := []) (dstOk_lt hd) ha ⟨0, ?_⟩ h
  rw [cond_false, symOp_eq, ha.eval, hs]
  rfl
theorem H_vald (hs : symOpE cx (ev g) { σ with low := σ.next } op type = some (.val v σ')) (hd : dstOk n dst = true) (hf : fits all i (fpE (ev g) σ.next σ'.low op) fs = true)
    (h : H cx (.ops true all (i + 1) (keepFp i (fpE (ev g) σ.next σ'.low op) fs) rest) n (setO g dst v) { σ' with low := min σ.low σ'.low } Q) :
    H cx (.ops true all i fs (⟨dst, op, type, pos, after, none⟩ :: rest)) n g σ Q := fun a ha => by
  refine step_at (op := op) (dst := dst) ⟨rfl, rfl, rfl⟩ (dstOk_lt hd) ha ⟨0, ?_⟩ h
  rw [cond_true, symOp_eq, ha.eval, hs]
  show stepDraw all i _ a σ fs (v, σ') = _
  simp only [stepDraw, fpOf_eq, ha.eval, hf, cond_true]
def back (σ : St) (v : Value) (σ' : St) : St := cond (plain v && Nat.ble σ.next σ'.low) σ { σ' with low := min σ.low σ'.low }
def C (cx : Ctx) (f : FuncId) (args : List Value) (σ : St) (K : Value → St → Prop) : Prop :=
  ∀ a : Fr, ∃ k r v, run cx k (.call f args) a { σ with low := σ.next } = some r ∧ r.a.t.get 0 = some v ∧ K v (back σ v r.σ)
theorem C.mono {f : FuncId} {args : List Value} {K K' : Value → St → Prop} (h : C cx f args σ K) (hk : ∀ v σ', K v σ' → K' v σ') : C cx f args σ K' := fun a => by
  obtain ⟨k, r, v, h1, h2, h3⟩ := h a
  exact ⟨k, r, v, h1, h2, hk _ _ h3⟩
theorem known_none {f : FuncId} {args : List Value} (h : cx.known.get f = none) : known cx f args σ = none := by
  unfold known
  rw [h]
theorem enter_run {f : FuncId} {args : List Value} {a : Fr} {k : Nat} {r : Out} (hk : cx.known.get f = none) (h1 : run cx k (.call f args) a { σ with low := σ.next } = some r) (h2 : r.a.t.get 0 = some v) :
    stepOper cx (run cx k) a σ (some (.enter f args)) = some (v, back σ v r.σ) := by
  show (match known cx f args σ with
    | some x => some x
    | none => (run cx k (.call f args) a { σ with low := σ.next }).bind (backFrom σ)) = _
  rw [known_none hk, h1]
  show backFrom σ r = _
  unfold backFrom
  rw [h2]
  show some (cond _ _ _) = some (v, cond _ _ _)
  cases plain v && Nat.ble σ.next r.σ.low <;> rfl
theorem H_call {f : FuncId} {args : List Value} (hs : symOpE cx (ev g) σ op type = some (.enter f args)) (hk : cx.known.get f = none) (hd : dstOk n dst = true)
    (h : C cx f args σ fun v σ' => H cx (.ops false all (i + 1) [] rest) n (setO g dst v) σ' Q) :
    H cx (.ops false all i fs (⟨dst, op, type, pos, after, none⟩ :: rest)) n g σ Q := fun a ha => by
  obtain ⟨k, r, v, h1, h2, h3⟩ := h a
  refine step_at (op := op) (dst := dst) ⟨rfl, rfl, rfl⟩ (fs' := []) (dstOk_lt hd) ha ⟨k, ?_⟩ h3
  rw [cond_false, symOp_eq, ha.eval, hs, enter_run hk h1 h2]
  rfl
theorem H_known {f : FuncId} {args : List Value} {v : Value} (hs : symOpE cx (ev g) σ op type = some (.enter f args)) (hk : known cx f args σ = some (v, σ)) (hd : dstOk n dst = true)
    (h : H cx (.ops false all (i + 1) [] rest) n (setO g dst v) σ Q) : H cx (.ops false all i fs (⟨dst, op, type, pos, after, none⟩ :: rest)) n g σ Q := fun a ha => by
  refine step_at (op := op) (dst := dst) ⟨rfl, rfl, rfl⟩ (fs' := []) (dstOk_lt hd) ha ⟨0, ?_⟩ h
  rw [cond_false, symOp_eq, ha.eval, hs]
  show (match known cx f args σ with
    | some x => some x
    | none => (run cx 0 (.call f args) a { σ with low := σ.next }).bind (backFrom σ)).bind stepFps = _
  rw [hk]
  rfl
theorem H_knownd {f : FuncId} {args : List Value} {v : Value} (hs : symOpE cx (ev g) { σ with low := σ.next } op type = some (.enter f args)) (hk : known cx f args { σ with low := σ.next } = some (v, { σ with low := σ.next })) (hd : dstOk n dst = true)
    (hf : fits all i (fpE (ev g) σ.next σ.next op) fs = true) (h : H cx (.ops true all (i + 1) (keepFp i (fpE (ev g) σ.next σ.next op) fs) rest) n (setO g dst v) { σ with low := min σ.low σ.next } Q) :
    H cx (.ops true all i fs (⟨dst, op, type, pos, after, none⟩ :: rest)) n g σ Q := fun a ha => by
  refine step_at (op := op) (dst := dst) ⟨rfl, rfl, rfl⟩ (dstOk_lt hd) ha ⟨0, ?_⟩ h
  rw [cond_true, symOp_eq, ha.eval, hs]
  show (match known cx f args { σ with low := σ.next } with
    | some x => some x
    | none => (run cx 0 (.call f args) a { σ with low := σ.next }).bind (backFrom _)).bind (stepDraw all i _ a σ fs) = _
  rw [hk]
  show stepDraw all i _ a σ fs (v, _) = _
  simp only [stepDraw, fpOf_eq, ha.eval, hf, cond_true]
theorem H_unwanted {d : Tmp} {j : Nat} {b want : Bool} (hj : (all.toList[j]?).bind (·.dst) = some d) (hb : g d = .bool b) (hw : b ≠ want) (hd : dstOk n dst = true) {dr : Bool}
    (h : H cx (.ops dr all (i + 1) fs rest) n (setO g dst undef) σ Q) : H cx (.ops dr all i fs (⟨dst, op, type, pos, after, some (j, want)⟩ :: rest)) n g σ Q := fun a ha => by
  obtain ⟨k, r, g', h1, h2, h3⟩ := h _ (ha.put dst undef (dstOk_lt hd))
  refine ⟨k + 1, r, g', ?_, h2, h3⟩
  show stepOps cx (run cx k) dr all i fs (⟨dst, op, type, pos, after, some (j, want)⟩ :: rest) a σ = some r
  have hy : yieldedS all a j = some b := by
    unfold yieldedS
    rw [hj]
    show (match a.eval (.tmp d) with
      | .bool b => some b
      | _ => none) = _
    rw [ha.v, hb]
  have hw' : wantedS all a ⟨dst, op, type, pos, after, some (j, want)⟩ = false := by
    unfold wantedS
    simp only [hy]
    cases b <;> cases want <;> simp at hw ⊢
  unfold stepOps
  simp only [hw']
  exact h1
theorem H_unwantedU {d : Tmp} {j : Nat} {want : Bool} (hj : (all.toList[j]?).bind (·.dst) = some d) (hb : g d = undef) (hd : dstOk n dst = true) {dr : Bool}
    (h : H cx (.ops dr all (i + 1) fs rest) n (setO g dst undef) σ Q) : H cx (.ops dr all i fs (⟨dst, op, type, pos, after, some (j, want)⟩ :: rest)) n g σ Q := fun a ha => by
  obtain ⟨k, r, g', h1, h2, h3⟩ := h _ (ha.put dst undef (dstOk_lt hd))
  refine ⟨k + 1, r, g', ?_, h2, h3⟩
  show stepOps cx (run cx k) dr all i fs (⟨dst, op, type, pos, after, some (j, want)⟩ :: rest) a σ = some r
  have hy : yieldedS all a j = none := by
    unfold yieldedS
    rw [hj]
    show (match a.eval (.tmp d) with
      | .bool b => some b
      | _ => none) = _
    rw [ha.v, hb]
    rfl
  have hw' : wantedS all a ⟨dst, op, type, pos, after, some (j, want)⟩ = false := by
    unfold wantedS
    simp only [hy]
  unfold stepOps
  simp only [hw']
  exact h1
theorem wanted_at {d : Tmp} {j : Nat} {b want : Bool} {a : Fr} (ha : a.Is n g) (hj : (all.toList[j]?).bind (·.dst) = some d) (hb : g d = .bool b) (hw : b = want) :
    wantedS all a ⟨dst, op, type, pos, after, some (j, want)⟩ = true := by
  have hy : yieldedS all a j = some b := by
    unfold yieldedS
    rw [hj]
    show (match a.eval (.tmp d) with
      | .bool b => some b
      | _ => none) = _
    rw [ha.v, hb]
  unfold wantedS
  simp only [hy, hw, beq_self_eq_true]
theorem H_gval {d : Tmp} {j : Nat} {b want : Bool} (hj : (all.toList[j]?).bind (·.dst) = some d) (hb : g d = .bool b) (hw : b = want)
    (hs : symOpE cx (ev g) σ op type = some (.val v σ')) (hd : dstOk n dst = true) (h : H cx (.ops false all (i + 1) [] rest) n (setO g dst v) σ' Q) :
    H cx (.ops false all i fs (⟨dst, op, type, pos, after, some (j, want)⟩ :: rest)) n g σ Q := fun a ha => by
  refine step_at (op := op) (dst := dst) ⟨rfl, rfl, wanted_at ha hj hb hw⟩ (fs' := []) (dstOk_lt hd) ha ⟨0, ?_⟩ h
  rw [cond_false, symOp_eq, ha.eval, hs]
  rfl
theorem H_gcall {d : Tmp} {j : Nat} {b want : Bool} (hj : (all.toList[j]?).bind (·.dst) = some d) (hb : g d = .bool b) (hw : b = want)
    {f : FuncId} {args : List Value} (hs : symOpE cx (ev g) σ op type = some (.enter f args)) (hk : cx.known.get f = none) (hd : dstOk n dst = true)
    (h : C cx f args σ fun v σ' => H cx (.ops false all (i + 1) [] rest) n (setO g dst v) σ' Q) :
    H cx (.ops false all i fs (⟨dst, op, type, pos, after, some (j, want)⟩ :: rest)) n g σ Q := fun a ha => by
  obtain ⟨k, r, v, h1, h2, h3⟩ := h a
  refine step_at (op := op) (dst := dst) ⟨rfl, rfl, wanted_at ha hj hb hw⟩ (fs' := []) (dstOk_lt hd) ha ⟨k, ?_⟩ h3
  rw [cond_false, symOp_eq, ha.eval, hs, enter_run hk h1 h2]
  rfl
theorem H_gvald {d : Tmp} {j : Nat} {b want : Bool} (hj : (all.toList[j]?).bind (·.dst) = some d) (hb : g d = .bool b) (hw : b = want)
    (hs : symOpE cx (ev g) { σ with low := σ.next } op type = some (.val v σ')) (hd : dstOk n dst = true) (hf : fits all i (fpE (ev g) σ.next σ'.low op) fs = true)
    (h : H cx (.ops true all (i + 1) (keepFp i (fpE (ev g) σ.next σ'.low op) fs) rest) n (setO g dst v) { σ' with low := min σ.low σ'.low } Q) :
    H cx (.ops true all i fs (⟨dst, op, type, pos, after, some (j, want)⟩ :: rest)) n g σ Q := fun a ha => by
  refine step_at (op := op) (dst := dst) ⟨rfl, rfl, wanted_at ha hj hb hw⟩ (dstOk_lt hd) ha ⟨0, ?_⟩ h
  rw [cond_true, symOp_eq, ha.eval, hs]
  show stepDraw all i _ a σ fs (v, σ') = _
  simp only [stepDraw, fpOf_eq, ha.eval, hf, cond_true]
theorem H_gcalld {d : Tmp} {j : Nat} {b want : Bool} (hj : (all.toList[j]?).bind (·.dst) = some d) (hb : g d = .bool b) (hw : b = want)
    {f : FuncId} {args : List Value} (hs : symOpE cx (ev g) { σ with low := σ.next } op type = some (.enter f args)) (hk : cx.known.get f = none) (hd : dstOk n dst = true)
    (h : C cx f args { σ with low := σ.next } fun v σ' => fits all i (fpE (ev g) σ.next σ'.low op) fs = true ∧
      H cx (.ops true all (i + 1) (keepFp i (fpE (ev g) σ.next σ'.low op) fs) rest) n (setO g dst v) { σ' with low := min σ.low σ'.low } Q) :
    H cx (.ops true all i fs (⟨dst, op, type, pos, after, some (j, want)⟩ :: rest)) n g σ Q := fun a ha => by
  obtain ⟨k, r, v, h1, h2, h3, h4⟩ := h a
  refine step_at (op := op) (dst := dst) ⟨rfl, rfl, wanted_at ha hj hb hw⟩ (dstOk_lt hd) ha ⟨k, ?_⟩ h4
  rw [cond_true, symOp_eq, ha.eval, hs, enter_run hk h1 h2]
  show stepDraw all i _ a σ fs (v, _) = _
  simp only [stepDraw, fpOf_eq, ha.eval, h3, cond_true]
theorem H_gknown {d : Tmp} {j : Nat} {b want : Bool} (hj : (all.toList[j]?).bind (·.dst) = some d) (hb : g d = .bool b) (hw : b = want)
    {f : FuncId} {args : List Value} {v : Value} (hs : symOpE cx (ev g) σ op type = some (.enter f args)) (hk : known cx f args σ = some (v, σ)) (hd : dstOk n dst = true)
    (h : H cx (.ops false all (i + 1) [] rest) n (setO g dst v) σ Q) : H cx (.ops false all i fs (⟨dst, op, type, pos, after, some (j, want)⟩ :: rest)) n g σ Q := fun a ha => by
  refine step_at (op := op) (dst := dst) ⟨rfl, rfl, wanted_at ha hj hb hw⟩ (fs' := []) (dstOk_lt hd) ha ⟨0, ?_⟩ h
  rw [cond_false, symOp_eq, ha.eval, hs]
  show (match known cx f args σ with
    | some x => some x
    | none => (run cx 0 (.call f args) a { σ with low := σ.next }).bind (backFrom σ)).bind stepFps = _
  rw [hk]
  rfl
theorem H_gknownd {d : Tmp} {j : Nat} {b want : Bool} (hj : (all.toList[j]?).bind (·.dst) = some d) (hb : g d = .bool b) (hw : b = want)
    {f : FuncId} {args : List Value} {v : Value} (hs : symOpE cx (ev g) { σ with low := σ.next } op type = some (.enter f args)) (hk : known cx f args { σ with low := σ.next } = some (v, { σ with low := σ.next })) (hd : dstOk n dst = true)
    (hf : fits all i (fpE (ev g) σ.next σ.next op) fs = true) (h : H cx (.ops true all (i + 1) (keepFp i (fpE (ev g) σ.next σ.next op) fs) rest) n (setO g dst v) { σ with low := min σ.low σ.next } Q) :
    H cx (.ops true all i fs (⟨dst, op, type, pos, after, some (j, want)⟩ :: rest)) n g σ Q := fun a ha => by
  refine step_at (op := op) (dst := dst) ⟨rfl, rfl, wanted_at ha hj hb hw⟩ (dstOk_lt hd) ha ⟨0, ?_⟩ h
  rw [cond_true, symOp_eq, ha.eval, hs]
  show (match known cx f args { σ with low := σ.next } with
    | some x => some x
    | none => (run cx 0 (.call f args) a { σ with low := σ.next }).bind (backFrom _)).bind (stepDraw all i _ a σ fs) = _
  rw [hk]
  show stepDraw all i _ a σ fs (v, _) = _
  simp only [stepDraw, fpOf_eq, ha.eval, hf, cond_true]
theorem H_calld {f : FuncId} {args : List Value} (hs : symOpE cx (ev g) { σ with low := σ.next } op type = some (.enter f args)) (hk : cx.known.get f = none) (hd : dstOk n dst = true)
    (h : C cx f args { σ with low := σ.next } fun v σ' => fits all i (fpE (ev g) σ.next σ'.low op) fs = true ∧
      H cx (.ops true all (i + 1) (keepFp i (fpE (ev g) σ.next σ'.low op) fs) rest) n (setO g dst v) { σ' with low := min σ.low σ'.low } Q) :
    H cx (.ops true all i fs (⟨dst, op, type, pos, after, none⟩ :: rest)) n g σ Q := fun a ha => by
  obtain ⟨k, r, v, h1, h2, h3, h4⟩ := h a
  refine step_at (op := op) (dst := dst) ⟨rfl, rfl, rfl⟩ (dstOk_lt hd) ha ⟨k, ?_⟩ h4
  rw [cond_true, symOp_eq, ha.eval, hs, enter_run hk h1 h2]
  show stepDraw all i _ a σ fs (v, _) = _
  simp only [stepDraw, fpOf_eq, ha.eval, h3, cond_true]
end
def resOneE (cx : Ctx) (e : Operand → Value) (σ : St) : ResultVar → Option Value
  | .tmp t => some (e (.tmp t))
  | .cell x t => (addrOf (e (.tmp x))).bind fun ad => loadVar cx σ t ad
def resE (cx : Ctx) (e : Operand → Value) (σ : St) : List ResultVar → Option (List Value)
  | [] => some []
  | x :: r => (resOneE cx e σ x).bind fun v => (resE cx e σ r).bind fun l => some (v :: l)
theorem resE_eq {a : Fr} {fn : Func} : resultsOf cx fn a σ = resE cx a.eval σ fn.results.toList := by
  unfold resultsOf
  induction fn.results.toList with
  | nil => rfl
  | cons x r ih =>
    have : resOne cx a σ x = resOneE cx a.eval σ x := by cases x <;> rfl
    simp only [List.mapM_cons, this, ih, resE]
    rfl
def argsF (args : List Value) : Nat → Value := fun t => orUndef args[t]?
theorem frameOf_is {n : Nat} {args : List Value} (hn : n ≤ 1000000) (h : args.length ≤ n) : (frameOf n args).Is n (argsF args) := by
  refine ⟨rfl, hn, fun t => ?_⟩
  show orUndef (((args.foldl (fun (s : Nat × Tr Value) v => (s.1 + 1, s.2.put deep s.1 (some v))) (0, .leaf)).2).get t) = _
  rw [frame_fold args 0 _ t (by omega)]
  unfold argsF
  by_cases ht : t < args.length
  · simp [ht]
  · have e1 : args[t]? = none := List.getElem?_eq_none (Nat.le_of_not_lt ht)
    rw [if_neg (fun h => ht (by have := h.2; simpa using this)), Tr.get_leaf, e1]
def bodyQ (cx : Ctx) (rs : List ResultVar) (σ : St) (K : Value → St → Prop) : Post := fun e g σ' =>
  match e with
  | .exit _ => False
  | _ => ∃ vs, resE cx (ev g) σ' rs = some vs ∧ K (wrapUp vs) (back σ (wrapUp vs) σ')
theorem C_body {f : FuncId} {fn : Func} {c : Code} {args : List Value} {K : Value → St → Prop} (hf : cx.fn.get f = some fn) (hb : fn.body = some c) (hn : Nat.ble fn.ntmps 1000000 = true) (ha : Nat.ble args.length fn.ntmps = true)
    (h : H cx (.code c) fn.ntmps (argsF args) { σ with low := σ.next } (bodyQ cx fn.results.toList σ K)) : C cx f args σ K := fun a => by
  have hn' := Nat.le_of_ble_eq_true hn
  have ha' := Nat.le_of_ble_eq_true ha
  obtain ⟨k, r, g', h1, h2, h3⟩ := h _ (frameOf_is hn' ha')
  have key : run cx (k + 1) (.call f args) a { σ with low := σ.next } = stepRet cx fn r := by
    show stepCall cx (run cx k) args { σ with low := σ.next } (cx.fn.get f) = _
    rw [hf]
    show stepBody cx (run cx k) fn args { σ with low := σ.next } fn.body = _
    rw [hb]
    show cond _ _ _ = _
    rw [ha, cond_true, h1]
    rfl
  have h4 : ∃ vs, resultsOf cx fn r.a r.σ = some vs ∧ K (wrapUp vs) (back σ (wrapUp vs) r.σ) ∧ ∀ i, r.ex ≠ .exit i := by
    rw [resE_eq, h2.eval]
    cases he : r.ex with
    | exit i =>
      rw [he] at h3
      exact h3.elim
    | normal =>
      rw [he] at h3
      obtain ⟨vs, e1, e2⟩ := h3
      exact ⟨vs, e1, e2, fun i e => by cases e⟩
    | ret =>
      rw [he] at h3
      obtain ⟨vs, e1, e2⟩ := h3
      exact ⟨vs, e1, e2, fun i e => by cases e⟩
  obtain ⟨vs, e1, e2, e3⟩ := h4
  refine ⟨k + 1, ⟨.ret, ⟨1, .node .leaf (some (wrapUp vs)) .leaf⟩, r.σ⟩, wrapUp vs, ?_, rfl, e2⟩
  rw [key]
  unfold stepRet
  cases he : r.ex with
  | exit i => exact absurd he (e3 i)
  | normal => simp only [e1]; rfl
  | ret => simp only [e1]; rfl
end
end Go.Sym
namespace Go.Sym
open Go
noncomputable section
set_option linter.unusedVariables false
structure Ext' (σ σ' : St) : Prop where
  next : σ.next ≤ σ'.next
  nextC : σ.nextC ≤ σ'.nextC
  low : min σ.low σ.next ≤ σ'.low
  mem : ∀ i, i < σ.next → σ'.mem.get i = σ.mem.get i
  caps : ∀ k, k < σ.nextC → σ'.caps.get k = σ.caps.get k
  le : σ.low ≤ σ.next → σ'.low ≤ σ'.next
theorem Ext'.refl (σ : St) : Ext' σ σ := ⟨Nat.le_refl _, Nat.le_refl _, Nat.min_le_left _ _, fun _ _ => rfl, fun _ _ => rfl, id⟩
theorem Ext'.trans {σ σ' σ'' : St} (h : Ext' σ σ') (k : Ext' σ' σ'') : Ext' σ σ'' := by
  obtain ⟨h1, h2, h3, h4, h5, h6⟩ := h
  obtain ⟨k1, k2, k3, k4, k5, k6⟩ := k
  exact ⟨by omega, by omega, by omega, fun i hi => (k4 i (by omega)).trans (h4 i hi), fun i hi => (k5 i (by omega)).trans (h5 i hi), fun h => k6 (h6 h)⟩
theorem Ext'.look {cx : Ctx} {σ σ' : St} (h : Ext' σ σ') {i : Nat} (hi : i < σ.next) : look cx σ' i = Sym.look cx σ i := by
  unfold Sym.look
  rw [h.mem i hi]
def St.fresh (σ : St) : St := { σ with low := σ.next }
theorem Ext'.to_fresh (σ : St) : Ext' σ σ.fresh := ⟨Nat.le_refl _, Nat.le_refl _, Nat.min_le_right _ _, fun _ _ => rfl, fun _ _ => rfl, fun _ => Nat.le_refl _⟩
theorem Ext'.fresh_le {σ σ' : St} (h : Ext' σ.fresh σ') : σ'.low ≤ σ'.next := h.le (Nat.le_refl _)
theorem back_plain {σ σ' : St} {v : Value} (h : Ext' σ.fresh σ') (hv : plain v = true) : back σ v σ' = σ := by
  have : σ.next ≤ σ'.low := by
    have := h.low
    change min σ.next σ.next ≤ _ at this
    omega
  unfold back
  rw [hv, Nat.ble_eq_true_of_le this]
  rfl
theorem back_ext {σ σ' : St} {v : Value} (h : Ext' σ.fresh σ') : Ext' σ (back σ v σ') := by
  unfold back
  cases plain v && Nat.ble σ.next σ'.low
  · have hl := h.fresh_le
    obtain ⟨h1, h2, h3, h4, h5, h6⟩ := h
    change min σ.next σ.next ≤ _ at h3
    exact ⟨h1, h2, by show min σ.low σ.next ≤ min σ.low σ'.low; omega, h4, h5, fun _ => by show min σ.low σ'.low ≤ σ'.next; omega⟩
  · exact Ext'.refl σ
theorem back_look {cx : Ctx} {σ σ' : St} {v : Value} (h : plain v = false) : back σ v σ' = { σ' with low := min σ.low σ'.low } := by
  unfold back
  rw [h]
  rfl
structure Mw where
  next : Nat
  nextC : Nat
  mem : Tr SRef
  caps : Tr Nat
def St.vw (σ : St) : Mw := ⟨σ.next, σ.nextC, σ.mem, σ.caps⟩
def lookW (cx : Ctx) (w : Mw) (i : Nat) : Option SObj := (w.mem.get i).bind (refOf cx)
def CapW (w : Mw) (n c : Nat) : Prop := (c < capBase ∧ n ≤ c) ∨ (capBase ≤ c ∧ c - capBase < w.nextC ∧ ∃ lo, w.caps.get (c - capBase) = some lo ∧ n ≤ lo)
abbrev CapOk (σ : St) (n c : Nat) : Prop := CapW σ.vw n c
theorem CapW.ext {σ σ' : St} (h : Ext' σ σ') {n c : Nat} (k : CapOk σ n c) : CapOk σ' n c := by
  rcases k with k | ⟨k1, k2, lo, k3, k4⟩
  · exact .inl k
  · exact .inr ⟨k1, Nat.lt_of_lt_of_le k2 h.nextC, lo, (h.caps _ k2).trans k3, k4⟩
theorem CapW.le {w : Mw} {n m c : Nat} (k : CapW w n c) (h : m ≤ n) : CapW w m c := by
  rcases k with ⟨k1, k2⟩ | ⟨k1, k2, lo, k3, k4⟩
  · exact .inl ⟨k1, by omega⟩
  · exact .inr ⟨k1, k2, lo, k3, by omega⟩
structure SlW (cx : Ctx) (w : Mw) (s : Nat) (b : Option Addr) (n c : Nat) (cs : List Value) : Prop where
  len : cs.length = n * s
  cap : CapW w n c
  nil : b = none → n = 0 ∧ c = 0
  at' : ∀ a, b = some a → a.block < w.next ∧ (0 < n → a.spot = none ∧ ∃ o, lookW cx w a.block = some o ∧ a.off + n * s ≤ o.cells.length ∧ (o.cells.drop a.off).take (n * s) = cs)
abbrev Sl (cx : Ctx) (σ : St) (s : Nat) (b : Option Addr) (n c : Nat) (cs : List Value) : Prop := SlW cx σ.vw s b n c cs
variable {cx : Ctx} {σ σ' : St} {s : Nat} {b : Option Addr} {n c : Nat} {cs : List Value}
theorem SlW.ext (h : Sl cx σ s b n c cs) (e : Ext' σ σ') : Sl cx σ' s b n c cs :=
  ⟨h.len, h.cap.ext e, h.nil, fun a ha => by
    obtain ⟨h2, k⟩ := h.at' a ha
    exact ⟨Nat.lt_of_lt_of_le h2 e.next, fun hn => by
      obtain ⟨h1, o, h3, h5, h4⟩ := k hn
      exact ⟨h1, o, (e.look h2).trans h3, h5, h4⟩⟩⟩
theorem SlW.none {w : Mw} : SlW cx w s none 0 0 [] := ⟨by simp, .inl ⟨by decide, Nat.le_refl 0⟩, fun _ => ⟨rfl, rfl⟩, fun _ h => by cases h⟩
theorem SlW.take {w : Mw} (h : SlW cx w s b n c cs) {m : Nat} (hm : m ≤ n) : SlW cx w s b m c (cs.take (m * s)) := by
  have hms : m * s ≤ n * s := Nat.mul_le_mul_right s hm
  refine ⟨by rw [List.length_take, h.len]; omega, h.cap.le hm, fun e => ?_, fun a ha => ?_⟩
  · have := h.nil e
    omega
  · obtain ⟨h2, k⟩ := h.at' a ha
    refine ⟨h2, fun hm0 => ?_⟩
    obtain ⟨h1, o, h3, h5, h4⟩ := k (by omega)
    refine ⟨h1, o, h3, by omega, ?_⟩
    rw [← h4, List.take_take, Nat.min_eq_left hms]
def elAt (b : Option Addr) (j : Nat) : Addr := ((b.getD ⟨0, 0, Option.none⟩)).add j
theorem op_indexAddr {t elem : TypeId} {ti ei : TI} {k : IntKind} {i : Nat} (ht : ty cx t = some ti) (hd : ti.desc = .slice elem) (he : ty cx elem = some ei) (h : Sl cx σ s b n c cs) (hi : i < n) :
    opIndexAddr cx t (.slice b n c) (.int k (i : Int)) = some (.pointer (some (elAt b (i * ei.size)))) := by
  cases b with
  | none => have := (h.nil rfl).1; omega
  | some a =>
    unfold opIndexAddr
    rw [ht]
    simp only [Option.bind_eq_bind, Option.bind_some, hd, he]
    have : ixOf (.int k (i : Int)) n = some i := by
      show cond (Nat.ble (Nat.succ i) n) (some i) Option.none = _
      rw [Nat.ble_eq_true_of_le hi]; rfl
    rw [this]
    rfl
theorem load_cells (h : Sl cx σ s b n c cs) {i m : Nat} (hb : b ≠ none) (hn : 0 < n) (hi : i + m ≤ n * s) : loadCells cx σ (elAt b i) m = some ((cs.drop i).take m) := by
  cases b with
  | none => exact absurd rfl hb
  | some a =>
    obtain ⟨h2, k⟩ := h.at' a rfl
    obtain ⟨h1, o, h3, hcl, h4⟩ := k hn
    change look cx σ a.block = some o at h3
    have ha : elAt (some a) i = ⟨a.block, a.off + i, Option.none⟩ := by
      obtain ⟨ab, ao, as⟩ := a
      change as = Option.none at h1
      subst h1
      unfold elAt Addr.add
      simp
    unfold loadCells
    rw [ha]
    simp only [Option.bind_eq_bind, Option.isNone_none, guard', if_true, Option.bind_some, h3]
    rw [if_pos (Nat.ble_eq_true_of_le (by omega))]
    simp only [Option.bind_some]
    rw [← h4, List.drop_take, List.take_take, Nat.min_eq_left (by omega), List.drop_drop]
theorem load_one {t : TypeId} {ti : TI} (ht : ty cx t = some ti) (hd : isAggD ti.desc = false) (h : Sl cx σ s b n c cs) {i : Nat} {v : Value} (hv : cs[i]? = some v) :
    opLoad cx σ t (.pointer (some (elAt b i))) = some (.val v σ) := by
  obtain ⟨hi, hv'⟩ := List.getElem?_eq_some_iff.1 hv
  rw [h.len] at hi
  unfold opLoad
  simp only [addrOf, Option.bind_eq_bind, Option.bind_some]
  unfold loadVar
  rw [ht]
  have : (cs.drop i).take 1 = [v] := by
    rw [List.drop_eq_getElem_cons (by rw [h.len]; exact hi), hv']
    rfl
  have hl : loadCells cx σ (elAt b i) 1 = some [v] := (load_cells h (fun e => by have := (h.nil e).1; subst this; omega) (Nat.pos_of_ne_zero fun e => by subst e; omega) (by omega)).trans (by rw [this])
  simp only [Option.bind_eq_bind, Option.bind_some, hd, hl]
  rfl
def dig (x : Nat) : Value := .int .u32 (x : Int)
structure DgW (cx : Ctx) (w : Mw) (b : Option Addr) (n c : Nat) (l : List Nat) : Prop where
  sl : SlW cx w 1 b n c (l.map dig)
  lt : ∀ x ∈ l, x < 4294967296
abbrev Dg (cx : Ctx) (σ : St) (b : Option Addr) (n c : Nat) (l : List Nat) : Prop := DgW cx σ.vw b n c l
theorem DgW.len {w : Mw} {l : List Nat} (h : DgW cx w b n c l) : n = l.length := by
  have := h.sl.len
  simpa using this.symm
theorem DgW.ext {l : List Nat} (h : Dg cx σ b n c l) (e : Ext' σ σ') : Dg cx σ' b n c l := ⟨h.sl.ext e, h.lt⟩
theorem DgW.take {w : Mw} {l : List Nat} (h : DgW cx w b n c l) {m : Nat} (hm : m ≤ n) : DgW cx w b m c (l.take m) :=
  ⟨by have := h.sl.take hm; rwa [Nat.mul_one, ← List.map_take] at this, fun x hx => h.lt x (List.mem_of_mem_take hx)⟩
end
end Go.Sym
namespace Go.Sym
open Go
noncomputable section
set_option linter.unusedVariables false
abbrev Fm := Nat → Value
def Tag {α : Sort _} (_ : α) : Type := Unit
def tag {α : Sort _} (a : α) : Tag a := ()
def blk (F : Value → St → Prop) (_ : Tag F) (v : Value) (σ : St) : Prop := F v σ
def blkP (A : Prop) (_ : Tag A) : Prop := A
section
variable {F : Value → St → Prop} {t : Tag F} {σ : St}
theorem blk_congr {v w : Value} (h : v = w) : blk F t v σ = blk F t w σ := by rw [h]
theorem blk_int {k : IntKind} {i : Int} : blk F t (.int k i) σ = F (.int k i) σ := Eq.trans rfl rfl
theorem blk_bool {b : Bool} : blk F t (.bool b) σ = F (.bool b) σ := Eq.trans rfl rfl
theorem blk_slice {b : Option Addr} {n c : Nat} : blk F t (.slice b n c) σ = F (.slice b n c) σ := Eq.trans rfl rfl
theorem blk_ptr {a : Option Addr} : blk F t (.pointer a) σ = F (.pointer a) σ := Eq.trans rfl rfl
theorem blk_agg {a : Array Value} : blk F t (.agg a) σ = F (.agg a) σ := Eq.trans rfl rfl
theorem blk_tuple {a : Array Value} : blk F t (.tuple a) σ = F (.tuple a) σ := Eq.trans rfl rfl
theorem blk_func {f : Fn} {x y : Array Value} : blk F t (.func f x y) σ = F (.func f x y) σ := Eq.trans rfl rfl
theorem blk_str {s : ByteArray} : blk F t (.string s) σ = F (.string s) σ := Eq.trans rfl rfl
theorem blk_undef : blk F t undef σ = F undef σ := Eq.trans rfl rfl
theorem blk_all {v : Value} : blk F t v σ = F v σ := Eq.trans rfl rfl
end
def Wo (m : Option Value) (K : Value → Prop) : Prop := ∃ v, m = some v ∧ K v
def Wr (m : Option Res) (K : Value → St → Prop) : Prop := ∃ v σ, m = some (.val v σ) ∧ K v σ
def Cq (cx : Ctx) (f : FuncId) (args : List Value) (σ : St) (K : Value → St → Prop) : Prop := (cx.known.get f = none ∧ C cx f args σ K) ∨ ∃ v, known cx f args σ = some (v, σ) ∧ K v σ
theorem Cq.mono {cx : Ctx} {f : FuncId} {args : List Value} {σ : St} {K K' : Value → St → Prop} (h : Cq cx f args σ K) (hk : ∀ v σ', K v σ' → K' v σ') : Cq cx f args σ K' :=
  h.imp (fun h => ⟨h.1, h.2.mono hk⟩) fun ⟨v, h1, h2⟩ => ⟨v, h1, hk _ _ h2⟩
def Wcall (cx : Ctx) (σ : St) (m : Option Res) (K : Value → St → Prop) : Prop := ∃ f args, m = some (.enter f args) ∧ Cq cx f args σ K
def isFnCall : Op → Bool
  | .call c => match c.callee with
    | .value _ => true
    | _ => false
  | _ => false
def Wop (cx : Ctx) (ty : TypeId) (op : Op) (g : Fm) (σ : St) (K : Value → St → Prop) : Prop :=
  Wr (symOpE cx (ev g) σ op ty) K ∨ (isFnCall op = true ∧ Wcall cx σ (symOpE cx (ev g) σ op ty) K)
theorem Wop_r {cx : Ctx} {ty : TypeId} {op : Op} {g : Fm} {σ : St} {K : Value → St → Prop} {m : Option Res} (hn : isFnCall op = false) (h : symOpE cx (ev g) σ op ty = m) : Wop cx ty op g σ K = Wr m K := by
  subst h
  refine propext ⟨fun k => ?_, .inl⟩
  rcases k with k | ⟨k, _⟩
  · exact k
  · rw [hn] at k
    cases k
def Wgd (v : Value) (want : Bool) (A B : Prop) : Prop := (∃ b, v = .bool b ∧ cond (b == want) A B) ∨ (v = undef ∧ B)
def dstAt : List Oper → Nat → Option Tmp
  | [], _ => none
  | o :: _, 0 => o.dst
  | _ :: r, n + 1 => dstAt r n
theorem dstAt_eq : ∀ (l : List Oper) (j : Nat), (l[j]?).bind (·.dst) = dstAt l j
  | [], j => by simp [dstAt]
  | o :: r, 0 => rfl
  | o :: r, n + 1 => by
    rw [List.getElem?_cons_succ]
    exact dstAt_eq r n
def Wgd' (g : Fm) (d : Option Tmp) (want : Bool) (A B : Prop) : Prop := ∃ x, d = some x ∧ Wgd (g x) want A B
theorem Wgd'_some {g : Fm} {d : Tmp} {want : Bool} {A B : Prop} : Wgd' g (some d) want A B = Wgd (g d) want A B :=
  propext ⟨fun ⟨x, e, h⟩ => by injection e with e; subst e; exact h, fun h => ⟨d, rfl, h⟩⟩
theorem Wgd'_congr {g : Fm} {d d' : Option Tmp} {want : Bool} {A B : Prop} (h : d = d') : Wgd' g d want A B = Wgd' g d' want A B := by rw [h]
def W (cx : Ctx) (all : Array Oper) : List Oper → Fm → St → (Fm → St → Prop) → Prop
  | [], g, σ, K => K g σ
  | ⟨dst, op, ty, _, _, none⟩ :: r, g, σ, K => Wop cx ty op g σ fun v σ' => W cx all r (setO g dst v) σ' K
  | ⟨dst, op, ty, _, _, some (j, want)⟩ :: r, g, σ, K => Wgd' g (dstAt all.toList j) want (Wop cx ty op g σ fun v σ' => W cx all r (setO g dst v) σ' K) (W cx all r (setO g dst undef) σ K)
def Wd (cx : Ctx) (all : Array Oper) : Nat → List (Nat × FP) → List Oper → Fm → St → (Fm → St → Prop) → Prop
  | _, _, [], g, σ, K => K g σ
  | i, fs, ⟨dst, op, ty, _, _, none⟩ :: r, g, σ, K => Wop cx ty op g { σ with low := σ.next } fun v σ' =>
      fits all i (fpE (ev g) σ.next σ'.low op) fs = true ∧ Wd cx all (i + 1) (keepFp i (fpE (ev g) σ.next σ'.low op) fs) r (setO g dst v) { σ' with low := min σ.low σ'.low } K
  | i, fs, ⟨dst, op, ty, _, _, some (j, want)⟩ :: r, g, σ, K => Wgd' g (dstAt all.toList j) want (Wop cx ty op g { σ with low := σ.next } fun v σ' =>
      fits all i (fpE (ev g) σ.next σ'.low op) fs = true ∧ Wd cx all (i + 1) (keepFp i (fpE (ev g) σ.next σ'.low op) fs) r (setO g dst v) { σ' with low := min σ.low σ'.low } K) (Wd cx all (i + 1) fs r (setO g dst undef) σ K)
variable {cx : Ctx} {n : Nat} {g : Fm} {σ : St} {Q : Post}
theorem dstAt_zero {d : Tmp} {op : Op} {ty : TypeId} {pos : String} {after : Array Edge} {gd : Option (Nat × Bool)} {r : List Oper} : dstAt (⟨some d, op, ty, pos, after, gd⟩ :: r) 0 = some d := Eq.trans rfl rfl
theorem dstAt_succ {o : Oper} {r : List Oper} {j : Nat} : dstAt (o :: r) (j + 1) = dstAt r j := Eq.trans rfl rfl
section
variable {all : Array Oper} {d : Tmp} {op : Op} {ty : TypeId} {pos : String} {after : Array Edge} {r : List Oper} {K : Fm → St → Prop} {j : Nat} {want : Bool} {i : Nat} {fs : List (Nat × FP)}
theorem W_nil : W cx all [] g σ K = K g σ := Eq.trans rfl rfl
theorem W_some : W cx all (⟨some d, op, ty, pos, after, none⟩ :: r) g σ K = Wop cx ty op g σ (blk (fun v σ' => W cx all r (setF g d v) σ' K) (tag _)) := Eq.trans rfl rfl
theorem W_none : W cx all (⟨none, op, ty, pos, after, none⟩ :: r) g σ K = Wop cx ty op g σ (blk (fun _ σ' => W cx all r g σ' K) (tag _)) := Eq.trans rfl rfl
theorem W_gd : W cx all (⟨some d, op, ty, pos, after, some (j, want)⟩ :: r) g σ K =
    Wgd' g (dstAt all.toList j) want (blkP (Wop cx ty op g σ (blk (fun v σ' => W cx all r (setF g d v) σ' K) (tag _))) (tag _)) (blkP (W cx all r (setF g d undef) σ K) (tag _)) := Eq.trans rfl rfl
theorem Wd_nil : Wd cx all i fs [] g σ K = K g σ := Eq.trans rfl rfl
theorem Wd_some : Wd cx all i fs (⟨some d, op, ty, pos, after, none⟩ :: r) g σ K = Wop cx ty op g { σ with low := σ.next } (blk (fun v σ' =>
      fits all i (fpE (ev g) σ.next σ'.low op) fs = true ∧ Wd cx all (i + 1) (keepFp i (fpE (ev g) σ.next σ'.low op) fs) r (setF g d v) { σ' with low := min σ.low σ'.low } K) (tag _)) := Eq.trans rfl rfl
theorem Wd_none : Wd cx all i fs (⟨none, op, ty, pos, after, none⟩ :: r) g σ K = Wop cx ty op g { σ with low := σ.next } (blk (fun _ σ' =>
      fits all i (fpE (ev g) σ.next σ'.low op) fs = true ∧ Wd cx all (i + 1) (keepFp i (fpE (ev g) σ.next σ'.low op) fs) r g { σ' with low := min σ.low σ'.low } K) (tag _)) := Eq.trans rfl rfl
end
theorem W_sound {all : Array Oper} : ∀ (l : List Oper) (i : Nat) (fs : List (Nat × FP)) (g : Fm) (σ : St) (K : Fm → St → Prop), (l.all fun o => dstOk n o.dst) = true → W cx all l g σ K → H cx (.ops false all i fs l) n g σ (fun e g σ => e = .normal ∧ K g σ)
  | [], i, fs, g, σ, K, _, h => H_nil ⟨rfl, h⟩
  | ⟨dst, op, ty, pos, after, none⟩ :: r, i, fs, g, σ, K, hd, h => by
    simp only [List.all_cons, Bool.and_eq_true] at hd
    rcases h with ⟨v, σ', h1, h2⟩ | ⟨_, f, args, h1, ⟨h2, h3⟩ | ⟨v, h2, h3⟩⟩
    · exact H_val h1 hd.1 (W_sound r (i + 1) [] _ _ K hd.2 h2)
    · exact H_call h1 h2 hd.1 (h3.mono fun v σ' h => W_sound r (i + 1) [] _ _ K hd.2 h)
    · exact H_known h1 h2 hd.1 (W_sound r (i + 1) [] _ _ K hd.2 h3)
  | ⟨dst, op, ty, pos, after, some (j, want)⟩ :: r, i, fs, g, σ, K, hd, h => by
    simp only [List.all_cons, Bool.and_eq_true] at hd
    obtain ⟨d, hj, ⟨b, hb, h⟩ | ⟨hb, h⟩⟩ := h <;> rw [← dstAt_eq] at hj
    · cases hbw : (b == want) with
      | false =>
        rw [hbw] at h
        exact H_unwanted hj hb (by simpa using hbw) hd.1 (W_sound r (i + 1) fs _ _ K hd.2 h)
      | true =>
        rw [hbw] at h
        rcases h with ⟨v, σ', h1, h2⟩ | ⟨_, f, args, h1, ⟨h2, h3⟩ | ⟨v, h2, h3⟩⟩
        · exact H_gval hj hb (by simpa using hbw) h1 hd.1 (W_sound r (i + 1) [] _ _ K hd.2 h2)
        · exact H_gcall hj hb (by simpa using hbw) h1 h2 hd.1 (h3.mono fun v σ' h => W_sound r (i + 1) [] _ _ K hd.2 h)
        · exact H_gknown hj hb (by simpa using hbw) h1 h2 hd.1 (W_sound r (i + 1) [] _ _ K hd.2 h3)
    · exact H_unwantedU hj hb hd.1 (W_sound r (i + 1) fs _ _ K hd.2 h)
theorem Wd_sound {all : Array Oper} : ∀ (l : List Oper) (i : Nat) (fs : List (Nat × FP)) (g : Fm) (σ : St) (K : Fm → St → Prop), (l.all fun o => dstOk n o.dst) = true → Wd cx all i fs l g σ K → H cx (.ops true all i fs l) n g σ (fun e g σ => e = .normal ∧ K g σ)
  | [], i, fs, g, σ, K, _, h => H_nil ⟨rfl, h⟩
  | ⟨dst, op, ty, pos, after, none⟩ :: r, i, fs, g, σ, K, hd, h => by
    simp only [List.all_cons, Bool.and_eq_true] at hd
    rcases h with ⟨v, σ', h1, h2, h3⟩ | ⟨_, f, args, h1, ⟨h2, h3⟩ | ⟨v, h2, h3, h4⟩⟩
    · exact H_vald h1 hd.1 h2 (Wd_sound r (i + 1) _ _ _ K hd.2 h3)
    · exact H_calld h1 h2 hd.1 (h3.mono fun v σ' h => ⟨h.1, Wd_sound r (i + 1) _ _ _ K hd.2 h.2⟩)
    · exact H_knownd h1 h2 hd.1 h3 (Wd_sound r (i + 1) _ _ _ K hd.2 h4)
  | ⟨dst, op, ty, pos, after, some (j, want)⟩ :: r, i, fs, g, σ, K, hd, h => by
    simp only [List.all_cons, Bool.and_eq_true] at hd
    obtain ⟨d, hj, ⟨b, hb, h⟩ | ⟨hb, h⟩⟩ := h <;> rw [← dstAt_eq] at hj
    · cases hbw : (b == want) with
      | false =>
        rw [hbw] at h
        exact H_unwanted hj hb (by simpa using hbw) hd.1 (Wd_sound r (i + 1) fs _ _ K hd.2 h)
      | true =>
        rw [hbw] at h
        rcases h with ⟨v, σ', h1, h2, h3⟩ | ⟨_, f, args, h1, ⟨h2, h3⟩ | ⟨v, h2, h3, h4⟩⟩
        · exact H_gvald hj hb (by simpa using hbw) h1 hd.1 h2 (Wd_sound r (i + 1) _ _ _ K hd.2 h3)
        · exact H_gcalld hj hb (by simpa using hbw) h1 h2 hd.1 (h3.mono fun v σ' h => ⟨h.1, Wd_sound r (i + 1) _ _ _ K hd.2 h.2⟩)
        · exact H_gknownd hj hb (by simpa using hbw) h1 h2 hd.1 h3 (Wd_sound r (i + 1) _ _ _ K hd.2 h4)
    · exact H_unwantedU hj hb hd.1 (Wd_sound r (i + 1) fs _ _ K hd.2 h)
section
def cls : Op → Nat
  | .store .. => 2
  | .load .. => 1
  | .call { callee := .builtin .copy, .. } => 2
  | op => cond (isFree op) 0 1
def clsOk (c : Nat) (fp : FP) : Prop :=
  match c with
  | 0 => fp = .part [] [] false
  | 1 => (∃ r m, fp = .part r [] m) ∨ fp = .all false
  | _ => True
def safe (c d : Nat) : Bool := (Nat.ble c 1 && Nat.ble d 1) || Nat.beq c 0 || Nat.beq d 0
def drawAt (all : Array Oper) (i : Nat) (o : Op) : Nat → List Oper → Bool
  | _, [] => true
  | j, p :: r => (safe (cls o) (cls p.op) || ((Region.before all).getD i 0).testBit j) && drawAt all i o (j + 1) r
def drawAll (all : Array Oper) : Nat → List Oper → Bool
  | _, [] => true
  | i, o :: r => drawAt all i o.op 0 (all.toList.take i) && drawAll all (i + 1) r
def strongAt (all : Array Oper) (i : Nat) : Nat → List Oper → Bool
  | _, [] => true
  | j, p :: r => (Nat.beq (cls p.op) 0 || Nat.beq i j || cond (Nat.blt j i) (((Region.before all).getD i 0).testBit j) (((Region.before all).getD j 0).testBit i)) && strongAt all i (j + 1) r
def strong (all : Array Oper) (i : Nat) : Bool := strongAt all i 0 all.toList
def okF (all : Array Oper) (i : Nat) (o : Op) (fp : FP) : Prop := clsOk (cls o) fp ∨ (cls o = 1 ∧ strong all i = true)
theorem meet_nil (r : List Nat) : meet r [] = false := by
  unfold meet
  induction r with
  | nil => rfl
  | cons x r ih => simp [ih]
theorem nil_meet (r : List Nat) : meet [] r = false := rfl
theorem no_conflict {c d : Nat} {x y : FP} (h : safe c d = true) (hx : clsOk c x) (hy : clsOk d y) : x.conflict y = false := by
  have zero_l : ∀ y : FP, (FP.part [] [] false).conflict y = false := fun y => by
    cases y with
    | part r w m => show (meet [] w || meet [] w || meet [] r) = false; rfl
    | all b => show (false || (b && (false || false))) = false; cases b <;> rfl
  have zero_r : ∀ x : FP, x.conflict (.part [] [] false) = false := fun x => by
    cases x with
    | part r w m => simp only [FP.conflict, meet_nil, Bool.or_self]
    | all b => show (false || (b && (false || false))) = false; cases b <;> rfl
  unfold safe at h
  by_cases hc : c = 0
  · subst hc
    rw [show x = .part [] [] false from hx]
    exact zero_l y
  by_cases hd : d = 0
  · subst hd
    rw [show y = .part [] [] false from hy]
    exact zero_r x
  have hc1 : c = 1 ∧ d = 1 := by
    simp only [Bool.or_eq_true, Bool.and_eq_true] at h
    rcases h with (⟨h1, h2⟩ | h) | h
    · have := Nat.le_of_ble_eq_true h1
      have := Nat.le_of_ble_eq_true h2
      omega
    · exact absurd (Nat.eq_of_beq_eq_true h) hc
    · exact absurd (Nat.eq_of_beq_eq_true h) hd
  obtain ⟨rfl, rfl⟩ := hc1
  rcases hx with ⟨r, m, rfl⟩ | rfl
  · rcases hy with ⟨r', m', rfl⟩ | rfl
    · simp only [FP.conflict, meet_nil, nil_meet, Bool.or_self]
    · rfl
  · rcases hy with ⟨r', m', rfl⟩ | rfl
    · rfl
    · rfl
def FsOk (all : Array Oper) (i : Nat) (fs : List (Nat × FP)) : Prop := ∀ q ∈ fs, ∃ o, all.toList[q.1]? = some o ∧ q.1 < i ∧ okF all q.1 o.op q.2
theorem drawAt_get {all : Array Oper} {i : Nat} {o : Op} : ∀ (l : List Oper) (k : Nat), drawAt all i o k l = true → ∀ j p, l[j]? = some p → (safe (cls o) (cls p.op) || ((Region.before all).getD i 0).testBit (k + j)) = true
  | [], k, _, j, p, h => by simp at h
  | q :: r, k, h, j, p, hp => by
    simp only [drawAt, Bool.and_eq_true] at h
    cases j with
    | zero =>
      simp only [List.getElem?_cons_zero, Option.some.injEq] at hp
      subst hp
      exact h.1
    | succ j =>
      rw [List.getElem?_cons_succ] at hp
      have := drawAt_get r (k + 1) h.2 j p hp
      rwa [show k + 1 + j = k + (j + 1) by omega] at this
theorem strongAt_get {all : Array Oper} {i : Nat} : ∀ (l : List Oper) (k : Nat), strongAt all i k l = true → ∀ j p, l[j]? = some p →
    (Nat.beq (cls p.op) 0 || Nat.beq i (k + j) || cond (Nat.blt (k + j) i) (((Region.before all).getD i 0).testBit (k + j)) (((Region.before all).getD (k + j) 0).testBit i)) = true
  | [], k, _, j, p, h => by simp at h
  | q :: r, k, h, j, p, hp => by
    simp only [strongAt, Bool.and_eq_true] at h
    cases j with
    | zero =>
      simp only [List.getElem?_cons_zero, Option.some.injEq] at hp
      subst hp
      exact h.1
    | succ j =>
      rw [List.getElem?_cons_succ] at hp
      have := strongAt_get r (k + 1) h.2 j p hp
      rwa [show k + 1 + j = k + (j + 1) by omega] at this
theorem zero_conflict {x y : FP} (hx : x = .part [] [] false ∨ y = .part [] [] false) : x.conflict y = false := by
  rcases hx with rfl | rfl
  · cases y with
    | part r w m => show (meet [] w || meet [] w || meet [] r) = false; rfl
    | all b => show (false || (b && (false || false))) = false; cases b <;> rfl
  · cases x with
    | part r w m => simp only [FP.conflict, meet_nil, Bool.or_self]
    | all b => show (false || (b && (false || false))) = false; cases b <;> rfl
theorem fits_one {all : Array Oper} {i j : Nat} {o p : Oper} {fp q : FP} (ho : all.toList[i]? = some o) (hp : all.toList[j]? = some p) (hj : j < i)
    (h : (safe (cls o.op) (cls p.op) || ((Region.before all).getD i 0).testBit j) = true) (hc : okF all i o.op fp) (hq : okF all j p.op q) : (!(fp.conflict q) || ((Region.before all).getD i 0).testBit j) = true := by
  have hne : Nat.beq j i = false := by
    cases hb : Nat.beq j i
    · rfl
    · have := Nat.eq_of_beq_eq_true hb; omega
  have hne' : Nat.beq i j = false := by
    cases hb : Nat.beq i j
    · rfl
    · have := Nat.eq_of_beq_eq_true hb; omega
  have hlt : Nat.blt j i = true := Nat.ble_eq_true_of_le hj
  have hge : Nat.blt i j = false := by
    cases hb : Nat.blt i j
    · rfl
    · have := Nat.le_of_ble_eq_true hb; omega
  have zero : ∀ {c : Nat} {x : FP}, clsOk c x → Nat.beq c 0 = true → x = .part [] [] false := fun h h0 => by
    have := Nat.eq_of_beq_eq_true h0
    subst this
    exact h
  simp only [Bool.or_eq_true, Bool.not_eq_true']
  rcases hc with hc | ⟨hc1, hc⟩
  · rcases hq with hq | ⟨hq1, hq⟩
    · rcases Bool.or_eq_true _ _ ▸ h with h1 | h1
      · exact .inl (no_conflict h1 hc hq)
      · exact .inr h1
    · have := strongAt_get _ 0 hq i o ho
      rw [Nat.zero_add, hne, hge, cond_false, Bool.or_false] at this
      rcases Bool.or_eq_true _ _ ▸ this with h1 | h1
      · exact .inl (zero_conflict (.inl (zero hc h1)))
      · exact .inr h1
  · have := strongAt_get _ 0 hc j p hp
    rw [Nat.zero_add, hne', hlt, cond_true, Bool.or_false] at this
    rcases Bool.or_eq_true _ _ ▸ this with h1 | h1
    · rcases hq with hq | ⟨hq1, hq⟩
      · exact .inl (zero_conflict (.inr (zero hq h1)))
      · rw [hq1] at h1
        cases h1
    · exact .inr h1
theorem fits_ok {all : Array Oper} {i : Nat} {o : Oper} {fp : FP} (ho : all.toList[i]? = some o) (h : drawAt all i o.op 0 (all.toList.take i) = true) (hc : okF all i o.op fp) : ∀ fs, FsOk all i fs → fits all i fp fs = true
  | [], _ => rfl
  | (j, q) :: r, hf => by
    have ih := fits_ok ho h hc r fun x hx => hf x (List.mem_cons_of_mem _ hx)
    obtain ⟨p, hp, hj, hq⟩ := hf (j, q) List.mem_cons_self
    have := drawAt_get _ 0 h j p (by rw [List.getElem?_take_of_lt hj]; exact hp)
    rw [Nat.zero_add] at this
    show ((!(fp.conflict q) || ((Region.before all).getD i 0).testBit j) && fits all i fp r) = true
    rw [ih, Bool.and_true]
    exact fits_one ho hp hj this hc hq
theorem fsOk_keep {all : Array Oper} {i : Nat} {o : Oper} {fp : FP} {fs : List (Nat × FP)} (ho : all.toList[i]? = some o) (hc : okF all i o.op fp) (hf : FsOk all i fs) : FsOk all (i + 1) (keepFp i fp fs) := by
  have h1 : FsOk all (i + 1) fs := fun q hq => by
    obtain ⟨p, h1, h2, h3⟩ := hf q hq
    exact ⟨p, h1, by omega, h3⟩
  unfold keepFp
  split
  · exact h1
  · intro q hq
    rcases List.mem_cons.1 hq with rfl | hq
    · exact ⟨o, ho, Nat.lt_succ_self i, hc⟩
    · exact h1 q hq
def W2 (cx : Ctx) (all : Array Oper) : List Oper → Fm → St → (Fm → St → Prop) → Prop
  | [], g, σ, K => K g σ
  | ⟨dst, op, ty, _, _, none⟩ :: r, g, σ, K => Wop cx ty op g { σ with low := σ.next } fun v σ' => okF all (all.toList.length - (r.length + 1)) op (fpE (ev g) σ.next σ'.low op) ∧ W2 cx all r (setO g dst v) { σ' with low := min σ.low σ'.low } K
  | ⟨dst, op, ty, _, _, some (j, want)⟩ :: r, g, σ, K => Wgd' g (dstAt all.toList j) want (Wop cx ty op g { σ with low := σ.next } fun v σ' => okF all (all.toList.length - (r.length + 1)) op (fpE (ev g) σ.next σ'.low op) ∧ W2 cx all r (setO g dst v) { σ' with low := min σ.low σ'.low } K) (W2 cx all r (setO g dst undef) σ K)
theorem Wop_mono {cx : Ctx} {ty : TypeId} {op : Op} {g : Fm} {σ : St} {K K' : Value → St → Prop} (h : Wop cx ty op g σ K) (hk : ∀ v σ', K v σ' → K' v σ') : Wop cx ty op g σ K' := by
  rcases h with ⟨v, s, h1, h2⟩ | ⟨h0, f, args, h1, h2⟩
  · exact .inl ⟨v, s, h1, hk _ _ h2⟩
  · exact .inr ⟨h0, f, args, h1, h2.mono hk⟩
theorem Wd_of {cx : Ctx} {all : Array Oper} : ∀ (l : List Oper) (i : Nat) (fs : List (Nat × FP)) (g : Fm) (σ : St) (K : Fm → St → Prop), all.toList.drop i = l → drawAll all i l = true → FsOk all i fs → W2 cx all l g σ K → Wd cx all i fs l g σ K
  | [], i, fs, g, σ, K, _, _, _, h => h
  | ⟨dst, op, ty, pos, after, none⟩ :: r, i, fs, g, σ, K, hl, hd, hf, h => by
    simp only [drawAll, Bool.and_eq_true] at hd
    have hi : all.toList[i]? = some ⟨dst, op, ty, pos, after, none⟩ := by
      have := congrArg (·[0]?) hl
      simpa using this
    have hr : all.toList.drop (i + 1) = r := by
      have := congrArg (·.drop 1) hl
      simpa [List.drop_drop, Nat.add_comm] using this
    have hx : all.toList.length - (r.length + 1) = i := by
      have := congrArg List.length hl
      rw [List.length_drop, List.length_cons] at this
      omega
    refine Wop_mono h fun v σ' ⟨h1, h2⟩ => ⟨fits_ok hi hd.1 (hx ▸ h1) fs hf, Wd_of r (i + 1) _ _ _ K hr hd.2 (fsOk_keep hi (hx ▸ h1) hf) h2⟩
  | ⟨dst, op, ty, pos, after, some (j, want)⟩ :: r, i, fs, g, σ, K, hl, hd, hf, h => by
    simp only [drawAll, Bool.and_eq_true] at hd
    have hi : all.toList[i]? = some ⟨dst, op, ty, pos, after, some (j, want)⟩ := by
      have := congrArg (·[0]?) hl
      simpa using this
    have hr : all.toList.drop (i + 1) = r := by
      have := congrArg (·.drop 1) hl
      simpa [List.drop_drop, Nat.add_comm] using this
    have hx : all.toList.length - (r.length + 1) = i := by
      have := congrArg List.length hl
      rw [List.length_drop, List.length_cons] at this
      omega
    obtain ⟨d, hj, ⟨b, hb, h⟩ | ⟨hb, h⟩⟩ := h
    · refine ⟨d, hj, .inl ⟨b, hb, ?_⟩⟩
      cases hbw : (b == want) with
      | false =>
        rw [hbw] at h
        exact Wd_of r (i + 1) _ _ _ K hr hd.2 (fun q hq => by
          obtain ⟨o, h1, h2, h3⟩ := hf q hq
          exact ⟨o, h1, Nat.lt_succ_of_lt h2, h3⟩) h
      | true =>
        rw [hbw] at h
        exact Wop_mono h fun v σ' ⟨h1, h2⟩ => ⟨fits_ok hi hd.1 (hx ▸ h1) fs hf, Wd_of r (i + 1) _ _ _ K hr hd.2 (fsOk_keep hi (hx ▸ h1) hf) h2⟩
    · exact ⟨d, hj, .inr ⟨hb, Wd_of r (i + 1) _ _ _ K hr hd.2 (fun q hq => by
        obtain ⟨o, h1, h2, h3⟩ := hf q hq
        exact ⟨o, h1, Nat.lt_succ_of_lt h2, h3⟩) h⟩⟩
end
def Wcond (v : Value) (A B : Prop) : Prop := ∃ b, v = .bool b ∧ cond b A B
def Wloop (cx : Ctx) (n : Nat) (x : Code) (g : Fm) (σ : St) (Q : Post) (_ : Tag Q) : Prop := H cx (.code (.loop x)) n g σ Q
def Wc (cx : Ctx) (n : Nat) : Code → Fm → St → Post → Prop
  | .skip, g, σ, Q => Q .normal g σ
  | .exit id, g, σ, Q => Q (.exit id) g σ
  | .ret, g, σ, Q => Q .ret g σ
  | .region _ ops false, g, σ, Q => W cx ops ops.toList g σ (Q .normal)
  | .region _ ops true, g, σ, Q => cond (drawAll ops 0 ops.toList) (W2 cx ops ops.toList g σ (Q .normal)) (Wd cx ops 0 [] ops.toList g σ (Q .normal))
  | .seq x y, g, σ, Q => Wc cx n x g σ fun e g σ => match e with
    | .normal => Wc cx n y g σ Q
    | e => Q e g σ
  | .cond c x y, g, σ, Q => Wcond (ev g c) (Wc cx n x g σ Q) (Wc cx n y g σ Q)
  | .block id x, g, σ, Q => Wc cx n x g σ (blockQ id Q)
  | .loop x, g, σ, Q => Wloop cx n x g σ Q (tag Q)
  | _, _, _, _ => False
def dstsOk (n : Nat) : Code → Bool
  | .region _ ops _ => ops.toList.all fun o => dstOk n o.dst
  | .seq x y => dstsOk n x && dstsOk n y
  | .cond _ x y => dstsOk n x && dstsOk n y
  | .block _ x => dstsOk n x
  | .loop x => dstsOk n x
  | _ => true
theorem Wc_sound : ∀ (c : Code) (g : Fm) (σ : St) (Q : Post), dstsOk n c = true → Wc cx n c g σ Q → H cx (.code c) n g σ Q
  | .skip, g, σ, Q, _, h => H_skip h
  | .exit id, g, σ, Q, _, h => H_exit h
  | .ret, g, σ, Q, _, h => H_ret h
  | .region s ops false, g, σ, Q, hd, h => H_region ((W_sound _ 0 [] g σ _ hd h).mono fun e g σ h => by rw [h.1]; exact h.2)
  | .region s ops true, g, σ, Q, hd, h => H_region ((Wd_sound _ 0 [] g σ _ hd (by
      change cond _ _ _ at h
      cases hb : drawAll ops 0 ops.toList with
      | true =>
        rw [hb, cond_true] at h
        exact Wd_of _ 0 [] g σ _ rfl hb (fun q hq => by cases hq) h
      | false =>
        rw [hb, cond_false] at h
        exact h)).mono fun e g σ h => by rw [h.1]; exact h.2)
  | .seq x y, g, σ, Q, hd, h => by
    simp only [dstsOk, Bool.and_eq_true] at hd
    refine H_seq ((Wc_sound x g σ _ hd.1 h).mono fun e g σ h => ?_)
    cases e with
    | normal => exact Wc_sound y g σ Q hd.2 h
    | exit i => exact h
    | ret => exact h
  | .cond c x y, g, σ, Q, hd, h => by
    simp only [dstsOk, Bool.and_eq_true] at hd
    obtain ⟨b, hb, h⟩ := h
    refine H_cond hb ?_
    cases b with
    | true => exact Wc_sound x g σ Q hd.1 h
    | false => exact Wc_sound y g σ Q hd.2 h
  | .block id x, g, σ, Q, hd, h => H_block (Wc_sound x g σ _ hd h)
  | .loop x, g, σ, Q, hd, h => h
def seqQ (cx : Ctx) (n : Nat) (y : Code) (Q : Post) : Post := fun e g σ =>
  match e with
  | .normal => Wc cx n y g σ Q
  | e => Q e g σ
theorem Wloop_inv {x : Code} (I : Nat → Fm → St → Prop) (m : Nat) (hd : dstsOk n x = true) (hi : I m g σ) (h : ∀ m g σ, I m g σ → Wc cx n x g σ (loopQ I m Q)) {t : Tag Q} : Wloop cx n x g σ Q t :=
  H_loop I m hi fun m g σ hi => Wc_sound x g σ _ hd (h m g σ hi)
theorem C_of {f : FuncId} {fn : Func} {c : Code} {args : List Value} {K : Value → St → Prop} {N : Nat} {rs : List ResultVar} (hf : cx.fn.get f = some fn) (hb : fn.body = some c) (hN : fn.ntmps = N) (hr : fn.results.toList = rs)
    (hn : Nat.ble N 1000000 = true) (ha : Nat.ble args.length N = true) (hd : dstsOk N c = true) (h : Wc cx N c (argsF args) σ.fresh (bodyQ cx rs σ K)) : C cx f args σ K := by
  subst hN hr
  exact C_body hf hb hn ha (Wc_sound c _ _ _ hd h)
section
variable {x y : Code} {s id : Nat} {ops : Array Oper} {c : Operand}
theorem Wc_skip : Wc cx n .skip g σ Q = Q .normal g σ := Eq.trans rfl rfl
theorem Wc_exit : Wc cx n (.exit id) g σ Q = Q (.exit id) g σ := Eq.trans rfl rfl
theorem Wc_ret : Wc cx n .ret g σ Q = Q .ret g σ := Eq.trans rfl rfl
theorem Wc_region : Wc cx n (.region s ops false) g σ Q = W cx ops ops.toList g σ (Q .normal) := Eq.trans rfl rfl
theorem Wc_draw (h : drawAll ops 0 ops.toList = true) : Wc cx n (.region s ops true) g σ Q = W2 cx ops ops.toList g σ (Q .normal) := by
  show cond _ _ _ = _
  rw [h, cond_true]
theorem Wc_drawF (h : drawAll ops 0 ops.toList = false) : Wc cx n (.region s ops true) g σ Q = Wd cx ops 0 [] ops.toList g σ (Q .normal) := by
  show cond _ _ _ = _
  rw [h, cond_false]
theorem Wc_seq : Wc cx n (.seq x y) g σ Q = Wc cx n x g σ (seqQ cx n y Q) := by
  show Wc cx n x g σ _ = Wc cx n x g σ _
  congr 1
theorem Wc_cond : Wc cx n (.cond c x y) g σ Q = Wcond (ev g c) (blkP (Wc cx n x g σ Q) (tag _)) (blkP (Wc cx n y g σ Q) (tag _)) := Eq.trans rfl rfl
theorem Wc_block : Wc cx n (.block id x) g σ Q = Wc cx n x g σ (blockQ id Q) := Eq.trans rfl rfl
theorem Wc_loop : Wc cx n (.loop x) g σ Q = Wloop cx n x g σ Q (tag Q) := Eq.trans rfl rfl
theorem seqQ_normal : seqQ cx n y Q .normal g σ = Wc cx n y g σ Q := Eq.trans rfl rfl
theorem seqQ_exit : seqQ cx n y Q (.exit id) g σ = Q (.exit id) g σ := Eq.trans rfl rfl
theorem seqQ_ret : seqQ cx n y Q .ret g σ = Q .ret g σ := Eq.trans rfl rfl
end
def WQ (cx : Ctx) (rs : List ResultVar) (σ : St) (K : Value → St → Prop) (g : Fm) (σ' : St) : Prop := ∃ vs, resE cx (ev g) σ' rs = some vs ∧ K (wrapUp vs) (back σ (wrapUp vs) σ')
variable {rs : List ResultVar} {σ' : St} {K : Value → St → Prop}
theorem bodyQ_ret : bodyQ cx rs σ K .ret g σ' = WQ cx rs σ K g σ' := rfl
theorem bodyQ_normal : bodyQ cx rs σ K .normal g σ' = WQ cx rs σ K g σ' := rfl
theorem WQ_tmp {t : Tmp} : WQ cx [.tmp t] σ K g σ' = K (g t) (back σ (g t) σ') :=
  propext ⟨fun ⟨vs, h, k⟩ => by
    injection h with h
    subst h
    exact k, fun k => ⟨_, rfl, k⟩⟩
theorem WQ_tmp2 {t u : Tmp} : WQ cx [.tmp t, .tmp u] σ K g σ' = K (.tuple #[g t, g u]) (back σ (.tuple #[g t, g u]) σ') :=
  propext ⟨fun ⟨vs, h, k⟩ => by
    injection h with h
    subst h
    exact k, fun k => ⟨_, rfl, k⟩⟩
theorem WQ_none : WQ cx [] σ K g σ' = K (.tuple #[]) (back σ (.tuple #[]) σ') :=
  propext ⟨fun ⟨vs, h, k⟩ => by
    injection h with h
    subst h
    exact k, fun k => ⟨_, rfl, k⟩⟩
theorem blockQ_eq {id : Nat} : blockQ id Q (.exit id) g σ = Q .normal g σ := if_pos rfl
theorem blockQ_ne {id j : Nat} (h : j ≠ id) : blockQ id Q (.exit j) g σ = Q (.exit j) g σ := if_neg h
theorem blockQ_normal {id : Nat} : blockQ id Q .normal g σ = Q .normal g σ := rfl
theorem blockQ_ret {id : Nat} : blockQ id Q .ret g σ = Q .ret g σ := rfl
theorem loopQ_normal {I : Nat → Fm → St → Prop} {m : Nat} : loopQ I m Q .normal g σ = ∃ j, j < m ∧ I j g σ := rfl
theorem loopQ_exit {I : Nat → Fm → St → Prop} {m i : Nat} : loopQ I m Q (.exit i) g σ = Q (.exit i) g σ := rfl
theorem loopQ_ret {I : Nat → Fm → St → Prop} {m : Nat} : loopQ I m Q .ret g σ = Q .ret g σ := rfl
end
end Go.Sym
namespace Go.Sym
open Go
noncomputable section
set_option linter.unusedVariables false
variable {cx : Ctx} {n : Nat} {g : Fm} {σ σ' : St} {Q : Post} {K : Value → St → Prop} {ty' : TypeId}
theorem Wo_some {v : Value} {K : Value → Prop} : Wo (some v) K = K v := propext ⟨fun ⟨_, h, k⟩ => by injection h with h; subst h; exact k, fun k => ⟨_, rfl, k⟩⟩
theorem Wop_val {op : Op} {v : Value} (h : symOpE cx (ev g) σ op ty' = some (.val v σ')) : Wop cx ty' op g σ K = K v σ' := by
  refine propext ⟨fun k => ?_, fun k => .inl ⟨v, σ', h, k⟩⟩
  rcases k with ⟨v', s', h1, h2⟩ | ⟨_, f, args, h1, _⟩
  · rw [h] at h1
    injection h1 with h1
    injection h1 with h1 h3
    subst h1 h3
    exact h2
  · rw [h] at h1
    cases h1
theorem Wop_none {op : Op} (h : symOpE cx (ev g) σ op ty' = none) : ¬ Wop cx ty' op g σ K := fun k => by
  rcases k with ⟨v', s', h1, h2⟩ | ⟨_, f, args, h1, _⟩
  · rw [h] at h1
    cases h1
  · rw [h] at h1
    cases h1
theorem Wop_of {op : Op} {m : Option Value} (h : symOpE cx (ev g) σ op ty' = val σ m) : Wop cx ty' op g σ K = Wo m fun v => K v σ := by
  cases m with
  | none => exact propext ⟨fun k => (Wop_none h k).elim, fun ⟨_, k, _⟩ => by cases k⟩
  | some v => rw [Wo_some]; exact Wop_val h
theorem ev_tmp {t : Tmp} : ev g (.tmp t) = g t := Eq.trans rfl rfl
theorem ev_const {v : Value} : ev g (.const v) = v := Eq.trans rfl rfl
theorem ev_func {f : FuncId} : ev g (.func f) = .func (.func f) #[] #[] := Eq.trans rfl rfl
theorem ev_global {k : Nat} : ev g (.global k) = .pointer (some ⟨k, 0, none⟩) := Eq.trans rfl rfl
theorem setO_some {d : Nat} {v : Value} : setO g (some d) v = setF g d v := Eq.trans rfl rfl
theorem setO_none {v : Value} : setO g none v = g := Eq.trans rfl rfl
theorem setF_same {d : Nat} {v : Value} : setF g d v d = v := if_pos rfl
theorem setF_ne {d t : Nat} {v : Value} (h : t ≠ d) : setF g d v t = g t := if_neg h
theorem argsF_zero {v : Value} {l : List Value} : argsF (v :: l) 0 = v := Eq.trans rfl rfl
theorem argsF_succ {v : Value} {l : List Value} {t : Nat} : argsF (v :: l) (t + 1) = argsF l t := by
  unfold argsF
  rw [List.getElem?_cons_succ]
theorem Wop_move {x : Operand} : Wop cx ty' (.move x) g σ K = K (ev g x) σ := Wop_val rfl
theorem Wop_assign {x : Operand} : Wop cx ty' (.assign x) g σ K = K (ev g x) σ := Wop_val rfl
def Wpick (c x y : Value) (K : Value → Prop) : Prop := ∃ b, c = .bool b ∧ K (cond b x y)
theorem Wop_pick {c x y : Operand} : Wop cx ty' (.pick c x y) g σ K = Wpick (ev g c) (ev g x) (ev g y) fun v => K v σ := by
  cases hc : ev g c with
  | bool b =>
    have h : symOpE cx (ev g) σ (.pick c x y) ty' = some (.val (cond b (ev g x) (ev g y)) σ) := by
      show opPick σ (ev g c) (ev g x) (ev g y) = _
      rw [hc]; rfl
    rw [Wop_val h]
    exact propext ⟨fun k => ⟨b, rfl, k⟩, fun ⟨b', e, k⟩ => by injection e with e; subst e; exact k⟩
  | _ =>
    have h : symOpE cx (ev g) σ (.pick c x y) ty' = none := by
      show opPick σ (ev g c) (ev g x) (ev g y) = _
      rw [hc]; rfl
    exact propext ⟨fun k => (Wop_none h k).elim, fun ⟨b, e, _⟩ => by cases e⟩
theorem Wpick_congr {c c' x x' y y' : Value} {K : Value → Prop} (h : c = c') (hx : x = x') (hy : y = y') : Wpick c x y K = Wpick c' x' y' K := by rw [h, hx, hy]
theorem Wpick_true {x y : Value} {K : Value → Prop} : Wpick (.bool true) x y K = K x := propext ⟨fun ⟨b, e, k⟩ => by injection e with e; subst e; exact k, fun k => ⟨true, rfl, k⟩⟩
theorem Wpick_false {x y : Value} {K : Value → Prop} : Wpick (.bool false) x y K = K y := propext ⟨fun ⟨b, e, k⟩ => by injection e with e; subst e; exact k, fun k => ⟨false, rfl, k⟩⟩
theorem Wpick_and {b c : Bool} {K : Value → Prop} : Wpick (.bool b) (.bool c) (.bool false) K = K (.bool (b && c)) := by
  cases b
  · exact Wpick_false
  · exact Wpick_true
theorem Wpick_or {b c : Bool} {K : Value → Prop} : Wpick (.bool b) (.bool true) (.bool c) K = K (.bool (b || c)) := by
  cases b
  · exact Wpick_false
  · exact Wpick_true
section
variable {A B : Prop} {t : Tag A} {u : Tag B}
theorem Wgd_tt : Wgd (.bool true) true (blkP A t) (blkP B u) = A := by
  refine propext ⟨fun h => ?_, fun k => .inl ⟨_, rfl, k⟩⟩
  rcases h with ⟨b', e, k⟩ | ⟨e, _⟩
  · injection e with e
    subst e
    exact k
  · cases e
theorem Wgd_ff : Wgd (.bool false) false (blkP A t) (blkP B u) = A := by
  refine propext ⟨fun h => ?_, fun k => .inl ⟨_, rfl, k⟩⟩
  rcases h with ⟨b', e, k⟩ | ⟨e, _⟩
  · injection e with e
    subst e
    exact k
  · cases e
theorem Wgd_tf : Wgd (.bool true) false (blkP A t) (blkP B u) = B := by
  refine propext ⟨fun h => ?_, fun k => .inl ⟨_, rfl, k⟩⟩
  rcases h with ⟨b', e, k⟩ | ⟨e, _⟩
  · injection e with e
    subst e
    exact k
  · cases e
theorem Wgd_ft : Wgd (.bool false) true (blkP A t) (blkP B u) = B := by
  refine propext ⟨fun h => ?_, fun k => .inl ⟨_, rfl, k⟩⟩
  rcases h with ⟨b', e, k⟩ | ⟨e, _⟩
  · injection e with e
    subst e
    exact k
  · cases e
theorem Wgd_un {w : Bool} : Wgd undef w (blkP A t) (blkP B u) = B := by
  refine propext ⟨fun h => ?_, fun k => .inr ⟨rfl, k⟩⟩
  rcases h with ⟨b', e, k⟩ | ⟨_, k⟩
  · cases e
  · exact k
theorem Wcond_true : Wcond (.bool true) (blkP A t) (blkP B u) = A := propext ⟨fun ⟨b, e, k⟩ => by injection e with e; subst e; exact k, fun k => ⟨true, rfl, k⟩⟩
theorem Wcond_false : Wcond (.bool false) (blkP A t) (blkP B u) = B := propext ⟨fun ⟨b, e, k⟩ => by injection e with e; subst e; exact k, fun k => ⟨false, rfl, k⟩⟩
theorem Wcond_if {P : Prop} {d : Decidable P} (h1 : P → A) (h2 : ¬ P → B) : Wcond (.bool (@decide P d)) (blkP A t) (blkP B u) := by
  by_cases h : P
  · exact ⟨true, by rw [decide_eq_true h], h1 h⟩
  · exact ⟨false, by rw [decide_eq_false h], h2 h⟩
end
theorem Wgd_congr {v v' : Value} {want : Bool} {A B : Prop} (h : v = v') : Wgd v want A B = Wgd v' want A B := by rw [h]
theorem Wcond_congr {v v' : Value} {A B : Prop} (h : v = v') : Wcond v A B = Wcond v' A B := by rw [h]
def Wbin (cx : Ctx) (op : BinOp) (t : TypeId) (ox oy : Operand) (x y : Value) (K : Value → Prop) : Prop := Wo (opBin cx op t ox oy x y) K
theorem Wop_bin {op : BinOp} {t : TypeId} {x y : Operand} {u : TypeId} : Wop cx ty' (.binOp op t x y u) g σ K = Wbin cx op t x y (ev g x) (ev g y) fun v => K v σ := Wop_of rfl
theorem Wbin_congr {op : BinOp} {t : TypeId} {ox oy : Operand} {x x' y y' : Value} {K : Value → Prop} (hx : x = x') (hy : y = y') : Wbin cx op t ox oy x y K = Wbin cx op t ox oy x' y' K := by rw [hx, hy]
theorem guard_int {op : BinOp} {t : TypeId} {ox oy : Operand} {k l : IntKind} {a b : Int} : eqGuard op t ox oy (.int k a) (.int l b) = pure () := by
  unfold eqGuard
  cases op <;> rfl
theorem opBin_int {op : BinOp} {t : TypeId} {ox oy : Operand} {k l : IntKind} {a b : Int} : opBin cx op t ox oy (.int k a) (.int l b) = pureV cx.P (binOp op t (.int k a) (.int l b)) := by
  unfold opBin
  have e : (plain (.int k a) && plain (.int l b)) = true := rfl
  rw [e, if_pos rfl, guard_int]
  rfl
theorem opBin_pure {op : BinOp} {t : TypeId} {ox oy : Operand} {k l : IntKind} {a b : Int} {v : Value} (h : binOp op t (.int k a) (.int l b) = pure v) (hv : plain v = true) :
    opBin cx op t ox oy (.int k a) (.int l b) = some v := by
  rw [opBin_int, h]
  show (match some v with
    | some v => cond (plain v) (some v) none
    | none => none) = _
  show cond (plain v) (some v) none = _
  rw [hv]
  rfl
section
variable {t : TypeId} {ox oy : Operand} {k l : IntKind} {a b : Int} {K : Value → Prop}
theorem Wbin_add : Wbin cx .add t ox oy (.int k a) (.int k b) K = K (.int k (k.wrap (a + b))) := by unfold Wbin; rw [opBin_pure (v := .int k (k.wrap (a + b))) (by simp [binOp, Op.intArith]) rfl, Wo_some]
theorem Wbin_sub : Wbin cx .sub t ox oy (.int k a) (.int k b) K = K (.int k (k.wrap (a - b))) := by unfold Wbin; rw [opBin_pure (v := .int k (k.wrap (a - b))) (by simp [binOp, Op.intArith]) rfl, Wo_some]
theorem Wbin_mul : Wbin cx .mul t ox oy (.int k a) (.int k b) K = K (.int k (k.wrap (a * b))) := by unfold Wbin; rw [opBin_pure (v := .int k (k.wrap (a * b))) (by simp [binOp, Op.intArith]) rfl, Wo_some]
theorem Wbin_quo (h : b ≠ 0) : Wbin cx .quo t ox oy (.int k a) (.int k b) K = K (.int k (k.wrap (a.tdiv b))) := by unfold Wbin; rw [opBin_pure (v := .int k (k.wrap (a.tdiv b))) (by simp [binOp, Op.intDiv, h]) rfl, Wo_some]
theorem Wbin_rem (h : b ≠ 0) : Wbin cx .rem t ox oy (.int k a) (.int k b) K = K (.int k (a.tmod b)) := by unfold Wbin; rw [opBin_pure (v := .int k (a.tmod b)) (by simp [binOp, Op.intDiv, h]) rfl, Wo_some]
theorem Wbin_eql : Wbin cx .eql t ox oy (.int k a) (.int k b) K = K (.bool (decide (a = b))) := by unfold Wbin; rw [opBin_pure (v := .bool (decide (a = b))) (by simp [binOp, Op.intCmp]; rfl) rfl, Wo_some]
theorem Wbin_neq : Wbin cx .neq t ox oy (.int k a) (.int k b) K = K (.bool (!decide (a = b))) := by unfold Wbin; rw [opBin_pure (v := .bool (!decide (a = b))) (by simp [binOp, Op.intCmp]; rfl) rfl, Wo_some]
theorem Wbin_lss : Wbin cx .lss t ox oy (.int k a) (.int k b) K = K (.bool (decide (a < b))) := by unfold Wbin; rw [opBin_pure (v := .bool (decide (a < b))) (by simp [binOp, Op.intCmp]) rfl, Wo_some]
theorem Wbin_leq : Wbin cx .leq t ox oy (.int k a) (.int k b) K = K (.bool (decide (a ≤ b))) := by unfold Wbin; rw [opBin_pure (v := .bool (decide (a ≤ b))) (by simp [binOp, Op.intCmp]) rfl, Wo_some]
theorem Wbin_gtr : Wbin cx .gtr t ox oy (.int k a) (.int k b) K = K (.bool (decide (b < a))) := by unfold Wbin; rw [opBin_pure (v := .bool (decide (b < a))) (by simp [binOp, Op.intCmp]) rfl, Wo_some]
theorem Wbin_geq : Wbin cx .geq t ox oy (.int k a) (.int k b) K = K (.bool (decide (b ≤ a))) := by unfold Wbin; rw [opBin_pure (v := .bool (decide (b ≤ a))) (by simp [binOp, Op.intCmp]) rfl, Wo_some]
theorem Wbin_or : Wbin cx .or t ox oy (.int k a) (.int k b) K = K (.int k (k.wrap (BitVec.ofInt k.bits a ||| BitVec.ofInt k.bits b).toNat)) := by unfold Wbin; rw [opBin_pure (v := .int k (k.wrap (BitVec.ofInt k.bits a ||| BitVec.ofInt k.bits b).toNat)) (by simp [binOp, Op.intBits]) rfl, Wo_some]
theorem Wbin_and : Wbin cx .and t ox oy (.int k a) (.int k b) K = K (.int k (k.wrap (BitVec.ofInt k.bits a &&& BitVec.ofInt k.bits b).toNat)) := by unfold Wbin; rw [opBin_pure (v := .int k (k.wrap (BitVec.ofInt k.bits a &&& BitVec.ofInt k.bits b).toNat)) (by simp [binOp, Op.intBits]) rfl, Wo_some]
theorem Wbin_xor : Wbin cx .xor t ox oy (.int k a) (.int k b) K = K (.int k (k.wrap (BitVec.ofInt k.bits a ^^^ BitVec.ofInt k.bits b).toNat)) := by unfold Wbin; rw [opBin_pure (v := .int k (k.wrap (BitVec.ofInt k.bits a ^^^ BitVec.ofInt k.bits b).toNat)) (by simp [binOp, Op.intBits]) rfl, Wo_some]
theorem Wbin_shl (h : 0 ≤ b) : Wbin cx .shl t ox oy (.int k a) (.int l b) K = K (.int k (k.wrap (a * 2 ^ (min b.toNat k.bits)))) := by
  unfold Wbin; rw [opBin_pure (v := .int k (k.wrap (a * 2 ^ (min b.toNat k.bits)))) (by simp [binOp, Op.shift, Int.not_lt.2 h]) rfl, Wo_some]
theorem Wbin_shr (h : 0 ≤ b) : Wbin cx .shr t ox oy (.int k a) (.int l b) K = K (.int k (a.fdiv (2 ^ (min b.toNat k.bits)))) := by
  unfold Wbin; rw [opBin_pure (v := .int k (a.fdiv (2 ^ (min b.toNat k.bits)))) (by simp [binOp, Op.shift, Int.not_lt.2 h]) rfl, Wo_some]
end
end
end Go.Sym
namespace Go.Sym
open Go
noncomputable section
set_option linter.unusedVariables false
variable {cx : Ctx} {n : Nat} {g : Fm} {σ σ' : St} {Q : Post} {K : Value → St → Prop} {ty' : TypeId}
def Wun (cx : Ctx) (σ : St) (op : UnOp) (x : Value) (K : Value → St → Prop) : Prop := Wr (opUn cx σ op x) K
def Wconv (cx : Ctx) (σ : St) (s d : TypeId) (x : Value) (K : Value → St → Prop) : Prop := Wr (opConv cx σ s d x) K
def Wext (k : Nat) (x : Value) (K : Value → Prop) : Prop := ∃ vs, x = .tuple vs ∧ Wo vs.toList[k]? K
def Wfa (cx : Ctx) (t : TypeId) (k : Nat) (x : Value) (K : Value → Prop) : Prop := Wo (opFieldAddr cx t x k) K
def Wfd (cx : Ctx) (t : TypeId) (k : Nat) (x : Value) (K : Value → Prop) : Prop := Wo (opField cx t x k) K
def Wia (cx : Ctx) (t : TypeId) (x ix : Value) (K : Value → Prop) : Prop := Wo (opIndexAddr cx t x ix) K
def Wld (cx : Ctx) (σ : St) (t : TypeId) (x : Value) (K : Value → Prop) : Prop := ∃ a v, x = .pointer (some a) ∧ loadVar cx σ t a = some v ∧ K v
def Wst (cx : Ctx) (σ : St) (t : TypeId) (x y : Value) (K : Value → St → Prop) : Prop := Wr (opStore cx σ t x y) K
def Wal (cx : Ctx) (σ : St) (t : TypeId) (K : Value → St → Prop) : Prop := Wr (opAlloc cx σ t) K
def Wbox (σ : St) (t : TypeId) (x : Value) (K : Value → St → Prop) : Prop := Wr (opBox σ t x) K
def Wbd (cx : Ctx) (t : TypeId) (ps : List (Nat × Value)) (K : Value → Prop) : Prop := Wo (opBuild cx t ps) K
def Wbs (cx : Ctx) (σ : St) (t : TypeId) (n : Nat) (ps : List (Nat × Value)) (K : Value → St → Prop) : Prop := Wr (opBuildSlice cx σ t n ps) K
def Wmk (cx : Ctx) (σ : St) (t : TypeId) (l c : Value) (K : Value → St → Prop) : Prop := Wr (opMakeSlice cx σ t l c) K
def Wsl (cx : Ctx) (σ : St) (t : TypeId) (x : Value) (lo hi mx : Option Value) (K : Value → St → Prop) : Prop := Wr (opSlice cx σ t x lo hi mx) K
def Wlen (x : Value) (K : Value → Prop) : Prop := ∃ b n c, x = .slice b n c ∧ K (goInt n)
def Wap (cx : Ctx) (σ : St) (t xt : TypeId) (s x : Value) (K : Value → St → Prop) : Prop := Wr (opAppend cx σ t xt s x) K
def Wfn (cx : Ctx) (σ : St) (f : Value) (args : List Value) (K : Value → St → Prop) : Prop := Wr (callValue cx σ args f) K ∨ Wcall cx σ (callValue cx σ args f) K
theorem Wr_some {v : Value} : Wr (some (.val v σ')) K = K v σ' := propext ⟨fun ⟨v', s', h1, h2⟩ => by
  injection h1 with h1
  injection h1 with h1 h3
  subst h1 h3
  exact h2, fun k => ⟨v, σ', rfl, k⟩⟩
theorem Wop_un {op : UnOp} {t : TypeId} {x : Operand} : Wop cx ty' (.unOp op t x) g σ K = Wun cx σ op (ev g x) K := Wop_r rfl rfl
theorem Wop_conv {s d : TypeId} {x : Operand} : Wop cx ty' (.convert s d x) g σ K = Wconv cx σ s d (ev g x) K := Wop_r rfl rfl
theorem Wop_bs {t : TypeId} {m : Nat} {ps : Array (Nat × Operand)} : Wop cx ty' (.buildSlice t m ps) g σ K = Wbs cx σ t m (ps.toList.map fun p => (p.1, ev g p.2)) K := Wop_r rfl rfl
theorem Wop_mk {t : TypeId} {l c : Operand} : Wop cx ty' (.makeSlice t l c) g σ K = Wmk cx σ t (ev g l) (ev g c) K := Wop_r rfl rfl
theorem Wop_sl {t : TypeId} {x : Operand} {lo hi mx : Option Operand} : Wop cx ty' (.slice t x lo hi mx) g σ K = Wsl cx σ t (ev g x) (lo.map (ev g)) (hi.map (ev g)) (mx.map (ev g)) K := Wop_r rfl rfl
theorem Wop_ap {s x : Operand} {t xt : TypeId} : Wop cx ty' (.call { callee := .builtin .append, args := #[s, x], argTypes := #[t, xt] }) g σ K = Wap cx σ t xt (ev g s) (ev g x) K := Wop_r rfl rfl
def Wfnv (fn : Fn) (first captured : List Value) (K : Value → Prop) : Prop := K (.func fn ⟨first⟩ ⟨captured⟩)
theorem Wop_mf {fn : Fn} {first captured : Array Operand} : Wop cx ty' (.makeFunc fn first captured) g σ K = Wfnv fn (first.toList.map (ev g)) (captured.toList.map (ev g)) fun v => K v σ := by
  rw [Wop_r (m := some (.val (.func fn (first.map (ev g)) (captured.map (ev g))) σ)) rfl rfl, Wr_some]
  unfold Wfnv
  rw [← Array.toList_map, ← Array.toList_map]
theorem Wmk_congr {t : TypeId} {l l' c c' : Value} (h : l = l') (h' : c = c') : Wmk cx σ t l c K = Wmk cx σ t l' c' K := by rw [h, h']
theorem Wsl_congr {t : TypeId} {x x' : Value} {lo lo' hi hi' mx mx' : Option Value} (h : x = x') (h1 : lo = lo') (h2 : hi = hi') (h3 : mx = mx') : Wsl cx σ t x lo hi mx K = Wsl cx σ t x' lo' hi' mx' K := by rw [h, h1, h2, h3]
theorem Wap_congr {t xt : TypeId} {s s' x x' : Value} (h : s = s') (h' : x = x') : Wap cx σ t xt s x K = Wap cx σ t xt s' x' K := by rw [h, h']
theorem Wbs_congr {t : TypeId} {m : Nat} {l l' : List (Nat × Value)} (h : l = l') : Wbs cx σ t m l K = Wbs cx σ t m l' K := by rw [h]
theorem Wbd_congr {t : TypeId} {l l' : List (Nat × Value)} {K : Value → Prop} (h : l = l') : Wbd cx t l K = Wbd cx t l' K := by rw [h]
theorem Wop_fa {t : TypeId} {x : Operand} {k : Nat} : Wop cx ty' (.fieldAddr t x k) g σ K = Wfa cx t k (ev g x) fun v => K v σ := Wop_of rfl
theorem Wop_fd {t : TypeId} {x : Operand} {k : Nat} : Wop cx ty' (.field t x k) g σ K = Wfd cx t k (ev g x) fun v => K v σ := Wop_of rfl
theorem Wop_ia {t : TypeId} {x ix : Operand} : Wop cx ty' (.indexAddr t x ix) g σ K = Wia cx t (ev g x) (ev g ix) fun v => K v σ := Wop_of rfl
theorem Wop_bd {t : TypeId} {ps : Array (Nat × Operand)} : Wop cx ty' (.build t ps) g σ K = Wbd cx t (ps.toList.map fun p => (p.1, ev g p.2)) fun v => K v σ := Wop_of rfl
theorem Wop_ext {x : Operand} {k : Nat} : Wop cx ty' (.extract x k) g σ K = Wext k (ev g x) fun v => K v σ := by
  cases hx : ev g x with
  | tuple vs =>
    have h : symOpE cx (ev g) σ (.extract x k) ty' = val σ vs.toList[k]? := by
      show opExtract σ k (ev g x) = _
      rw [hx]; rfl
    rw [Wop_of h]
    exact propext ⟨fun k => ⟨vs, rfl, k⟩, fun ⟨vs', e, k⟩ => by injection e with e; subst e; exact k⟩
  | _ =>
    have h : symOpE cx (ev g) σ (.extract x k) ty' = none := by
      show opExtract σ k (ev g x) = _
      rw [hx]; rfl
    exact propext ⟨fun k => (Wop_none h k).elim, fun ⟨b, e, _⟩ => by cases e⟩
theorem Wop_ld {t : TypeId} {x : Operand} : Wop cx ty' (.load t x) g σ K = Wld cx σ t (ev g x) fun v => K v σ := by
  rw [Wop_r (m := opLoad cx σ t (ev g x)) rfl rfl]
  refine propext ⟨fun ⟨v, s, h, k⟩ => ?_, fun ⟨a, v, hx, hl, k⟩ => ⟨v, σ, ?_, k⟩⟩
  · unfold opLoad at h
    cases hx : ev g x <;> rw [hx] at h <;> try cases h
    rename_i a
    cases a with
    | none => cases h
    | some a =>
      simp only [addrOf, Option.bind_eq_bind, Option.bind_some, Option.bind_eq_some_iff] at h
      obtain ⟨u, hl, h⟩ := h
      injection h with h
      injection h with h1 h2
      subst h1 h2
      exact ⟨a, _, rfl, hl, k⟩
  · unfold opLoad
    rw [hx]
    simp only [addrOf, Option.bind_eq_bind, Option.bind_some, hl]
theorem Wop_st {t : TypeId} {x y : Operand} : Wop cx ty' (.store t x y) g σ K = Wst cx σ t (ev g x) (ev g y) K := Wop_r rfl rfl
theorem Wop_al {t : TypeId} : Wop cx ty' (.alloc t) g σ K = Wal cx σ t K := Wop_r rfl rfl
theorem Wop_box {t : TypeId} {x : Operand} : Wop cx ty' (.box t x) g σ K = Wbox σ t (ev g x) K := Wop_r rfl rfl
theorem Wun_congr {op : UnOp} {x y : Value} (h : x = y) : Wun cx σ op x K = Wun cx σ op y K := by rw [h]
theorem Wconv_congr {s d : TypeId} {x y : Value} (h : x = y) : Wconv cx σ s d x K = Wconv cx σ s d y K := by rw [h]
section
variable {K : Value → Prop} {k : Nat} {t : TypeId} {x x' y y' : Value}
theorem Wext_congr (h : x = y) : Wext k x K = Wext k y K := by rw [h]
theorem Wfa_congr (h : x = y) : Wfa cx t k x K = Wfa cx t k y K := by rw [h]
theorem Wfd_congr (h : x = y) : Wfd cx t k x K = Wfd cx t k y K := by rw [h]
theorem Wia_congr (h : x = x') (h' : y = y') : Wia cx t x y K = Wia cx t x' y' K := by rw [h, h']
theorem Wld_congr (h : x = y) : Wld cx σ t x K = Wld cx σ t y K := by rw [h]
theorem Wlen_congr (h : x = y) : Wlen x K = Wlen y K := by rw [h]
theorem Wext_tuple {vs : Array Value} {v : Value} (h : vs.toList[k]? = some v) : Wext k (.tuple vs) K = K v := by
  refine propext ⟨fun ⟨vs', e, v', h1, k⟩ => ?_, fun k => ⟨vs, rfl, v, h, k⟩⟩
  injection e with e
  subst e
  rw [h] at h1
  injection h1 with h1
  subst h1
  exact k
theorem Wlen_slice {b : Option Addr} {n c : Nat} : Wlen (.slice b n c) K = K (.int .i64 n) := by
  refine propext ⟨fun ⟨b', n', c', e, k⟩ => ?_, fun k => ⟨b, n, c, rfl, k⟩⟩
  injection e with e1 e2 e3
  subst e2
  exact k
theorem Wld_of {a : Addr} {v : Value} (h : loadVar cx σ t a = some v) : Wld cx σ t (.pointer (some a)) K = K v := by
  refine propext ⟨fun ⟨a', v', e, h1, k⟩ => ?_, fun k => ⟨a, v, rfl, h, k⟩⟩
  injection e with e
  injection e with e
  subst e
  rw [h] at h1
  injection h1 with h1
  subst h1
  exact k
end
theorem Wst_congr {t : TypeId} {x x' y y' : Value} (h : x = x') (h' : y = y') : Wst cx σ t x y K = Wst cx σ t x' y' K := by rw [h, h']
theorem Wbox_congr {t : TypeId} {x y : Value} (h : x = y) : Wbox σ t x K = Wbox σ t y K := by rw [h]
theorem Wun_not {b : Bool} : Wun cx σ .not (.bool b) K = K (.bool !b) σ := Wr_some
theorem Wun_xor32 {a : Int} : Wun cx σ .xor (.int .u32 a) K = K (.int .u32 (IntKind.u32.wrap (BitVec.ofInt 32 4294967295 ^^^ BitVec.ofInt 32 a).toNat)) σ := Wr_some
theorem Wun_neg {k : IntKind} {a : Int} : Wun cx σ .neg (.int k a) K = K (.int k (k.wrap (0 - a))) σ := Wr_some
theorem Wconv_of {s d : TypeId} {x v : Value} (h : opConv cx σ s d x = some (.val v σ)) : Wconv cx σ s d x K = K v σ := by
  unfold Wconv
  rw [h]
  exact Wr_some
def St.add (σ : St) (o : SObj) : St := { σ with next := σ.next + 1, mem := σ.mem.set σ.next (some (.own o)) }
theorem add_next {o : SObj} : (σ.add o).next = σ.next + 1 := Eq.trans rfl rfl
theorem set_next {i : Nat} {o : SObj} : (σ.set i o).next = σ.next := Eq.trans rfl rfl
theorem fresh_next : σ.fresh.next = σ.next := Eq.trans rfl rfl
theorem low_next {a : Nat} : St.next { σ with low := a } = σ.next := Eq.trans rfl rfl
theorem look_add {o : SObj} {i : Nat} (h : i = σ.next) : look cx (σ.add o) i = some o := by
  subst h
  show ((σ.mem.set σ.next (some (.own o))).get σ.next).bind _ = _
  rw [Tr.get_set, if_pos rfl]
  rfl
theorem look_add_lt {o : SObj} {i : Nat} (h : i < σ.next) : look cx (σ.add o) i = look cx σ i := by
  show ((σ.mem.set σ.next (some (.own o))).get i).bind _ = _
  rw [Tr.get_set, if_neg (by omega)]
  rfl
theorem look_set {o : SObj} {i j : Nat} (h : j = i) : look cx (σ.set i o) j = some o := by
  subst h
  show ((σ.mem.set j (some (.own o))).get j).bind _ = _
  rw [Tr.get_set, if_pos rfl]
  rfl
theorem look_set_ne {o : SObj} {i j : Nat} (h : j ≠ i) : look cx (σ.set i o) j = look cx σ j := by
  show ((σ.mem.set i (some (.own o))).get j).bind _ = _
  rw [Tr.get_set, if_neg h]
  rfl
theorem look_fresh {i : Nat} : look cx σ.fresh i = look cx σ i := rfl
theorem look_low {i a : Nat} : look cx { σ with low := a } i = look cx σ i := rfl
theorem Ext'.add {σ0 : St} (h : Ext' σ0 σ) (o : SObj) : Ext' σ0 (σ.add o) := h.trans ⟨Nat.le_succ _, Nat.le_refl _, Nat.min_le_left _ _, fun i hi => by
  show (σ.mem.set σ.next _).get i = _
  rw [Tr.get_set, if_neg (by omega)], fun _ _ => rfl, fun h => by show σ.low ≤ σ.next + 1; omega⟩
theorem Ext'.set {σ0 : St} (h : Ext' σ0 σ) {i : Nat} (o : SObj) (hi : σ0.next ≤ i) : Ext' σ0 (σ.set i o) :=
  ⟨h.next, h.nextC, by
    have := h.low
    show min σ0.low σ0.next ≤ min σ.low i
    omega, fun j hj => by
    show (σ.mem.set i _).get j = _
    rw [Tr.get_set, if_neg (by omega)]
    exact h.mem j hj, h.caps, fun hl => by
    have := h.le hl
    show min σ.low i ≤ σ.next
    omega⟩
theorem Ext'.setLow {σ0 : St} (h : Ext' σ0 σ) {a : Nat} (ha : min σ0.low σ0.next ≤ a) (hb : a ≤ σ.next) : Ext' σ0 { σ with low := a } := ⟨h.next, h.nextC, ha, h.mem, h.caps, fun _ => hb⟩
theorem Wal_of {t : TypeId} {i : TI} {z : Value} (h : ty cx t = some i) (hz : i.zero = some z) : Wal cx σ t K = K (.pointer (some ⟨σ.next, 0, none⟩)) (σ.add (.row z.cells.toList t)) := by
  unfold Wal opAlloc
  simp only [Option.bind_eq_bind, h, hz, Option.bind_some, newRow]
  exact Wr_some
theorem Wbox_of {t : TypeId} {x : Value} : Wbox σ t x K = K (.pointer (some ⟨σ.next, 0, none⟩)) (σ.add (.row x.cells.toList t)) := by
  unfold Wbox opBox
  simp only [Option.bind_eq_bind, Option.bind_some, newRow]
  exact Wr_some
def WQs (cx : Ctx) (σ : St) (K : Value → St → Prop) (g : Fm) (σ' : St) : List ResultVar → List Value → Prop
  | [], acc => K (wrapUp acc) (back σ (wrapUp acc) σ')
  | .tmp t :: r, acc => WQs cx σ K g σ' r (acc ++ [g t])
  | .cell x t :: r, acc => Wld cx σ' t (g x) fun v => WQs cx σ K g σ' r (acc ++ [v])
theorem WQs_ok {K : Value → St → Prop} : ∀ (rs : List ResultVar) (acc : List Value), WQs cx σ K g σ' rs acc → ∃ vs, resE cx (ev g) σ' rs = some vs ∧ K (wrapUp (acc ++ vs)) (back σ (wrapUp (acc ++ vs)) σ')
  | [], acc, h => ⟨[], rfl, by rw [List.append_nil]; exact h⟩
  | .tmp t :: r, acc, h => by
    obtain ⟨vs, h1, h2⟩ := WQs_ok r _ h
    refine ⟨g t :: vs, ?_, by simpa using h2⟩
    show (some (g t)).bind (fun v => (resE cx (ev g) σ' r).bind fun l => some (v :: l)) = _
    rw [h1]; rfl
  | .cell x t :: r, acc, ⟨a, v, e, hl, h⟩ => by
    obtain ⟨vs, h1, h2⟩ := WQs_ok r _ h
    refine ⟨v :: vs, ?_, by simpa using h2⟩
    show ((addrOf (g x)).bind fun ad => loadVar cx σ' t ad).bind (fun v => (resE cx (ev g) σ' r).bind fun l => some (v :: l)) = _
    rw [e]
    show (loadVar cx σ' t a).bind _ = _
    rw [hl]
    show (resE cx (ev g) σ' r).bind _ = _
    rw [h1]; rfl
theorem WQ_of {rs : List ResultVar} {K : Value → St → Prop} (h : WQs cx σ K g σ' rs []) : WQ cx rs σ K g σ' := by
  obtain ⟨vs, h1, h2⟩ := WQs_ok rs [] h
  exact ⟨vs, h1, h2⟩
theorem WQs_nil {acc : List Value} {K : Value → St → Prop} : WQs cx σ K g σ' [] acc = K (wrapUp acc) (back σ (wrapUp acc) σ') := Eq.trans rfl rfl
theorem WQs_tmp {acc : List Value} {K : Value → St → Prop} {t : Tmp} {r : List ResultVar} : WQs cx σ K g σ' (.tmp t :: r) acc = WQs cx σ K g σ' r (acc ++ [g t]) := Eq.trans rfl rfl
theorem WQs_cell {acc : List Value} {K : Value → St → Prop} {x : Tmp} {t : TypeId} {r : List ResultVar} : WQs cx σ K g σ' (.cell x t :: r) acc = Wld cx σ' t (g x) fun v => WQs cx σ K g σ' r (acc ++ [v]) := Eq.trans rfl rfl
def bodyW (cx : Ctx) (rs : List ResultVar) (σ : St) (K : Value → St → Prop) : Post := fun e g σ' =>
  match e with
  | .exit _ => False
  | _ => WQs cx σ K g σ' rs []
theorem bodyW_ret {rs : List ResultVar} {K : Value → St → Prop} : bodyW cx rs σ K .ret g σ' = WQs cx σ K g σ' rs [] := Eq.trans rfl rfl
theorem bodyW_normal {rs : List ResultVar} {K : Value → St → Prop} : bodyW cx rs σ K .normal g σ' = WQs cx σ K g σ' rs [] := Eq.trans rfl rfl
theorem wrap_one {v : Value} : wrapUp [v] = v := Eq.trans rfl rfl
theorem wrap_two {v w : Value} : wrapUp [v, w] = .tuple #[v, w] := Eq.trans rfl rfl
theorem wrap_three {v w u : Value} : wrapUp [v, w, u] = .tuple #[v, w, u] := Eq.trans rfl rfl
theorem wrap_nil : wrapUp [] = .tuple #[] := Eq.trans rfl rfl
theorem C_in {f : FuncId} {fn : Func} {c : Code} {args : List Value} {K : Value → St → Prop} {N : Nat} {rs : List ResultVar} (hf : cx.fn.get f = some fn) (hb : fn.body = some c) (hN : fn.ntmps = N) (hr : fn.results.toList = rs)
    (hn : Nat.ble N 1000000 = true) (ha : Nat.ble args.length N = true) (hd : dstsOk N c = true) (h : Wc cx N c (argsF args) σ.fresh (bodyW cx rs σ K)) : C cx f args σ K := by
  subst hN hr
  refine C_body hf hb hn ha ((Wc_sound c _ _ _ hd h).mono fun e g σ' h => ?_)
  cases e with
  | exit i => exact h
  | normal => exact WQ_of h
  | ret => exact WQ_of h
def loadO (cx : Ctx) (t : TypeId) (off : Nat) (o : SObj) : Option Value := (ty cx t).bind fun i =>
  cond (isAggD i.desc) (cond (Nat.ble (off + i.size) o.cells.length) (some (.agg ⟨(o.cells.drop off).take i.size⟩)) none) o.cells[off]?
def WldO (cx : Ctx) (t : TypeId) (off : Nat) (m : Option SObj) (K : Value → Prop) : Prop := ∃ o, m = some o ∧ Wo (loadO cx t off o) K
theorem WldO_congr {t : TypeId} {off : Nat} {m m' : Option SObj} {K : Value → Prop} (h : m = m') : WldO cx t off m K = WldO cx t off m' K := by rw [h]
theorem WldO_some {t : TypeId} {off : Nat} {o : SObj} {K : Value → Prop} : WldO cx t off (some o) K = Wo (loadO cx t off o) K :=
  propext ⟨fun ⟨o', e, k⟩ => by injection e with e; subst e; exact k, fun k => ⟨o, rfl, k⟩⟩
theorem take_one {cs : List Value} {off : Nat} : ∀ {v : Value}, (cs.drop off).take 1 = [v] ↔ cs[off]? = some v := by
  intro v
  cases h : cs[off]? with
  | none =>
    have := List.getElem?_eq_none_iff.1 h
    rw [List.drop_eq_nil_of_le this]
    simp
  | some u =>
    obtain ⟨hi, hu⟩ := List.getElem?_eq_some_iff.1 h
    rw [List.drop_eq_getElem_cons hi, hu]
    simp
theorem loadVar_eq {t : TypeId} {b off : Nat} {v : Value} : loadVar cx σ t ⟨b, off, none⟩ = some v ↔ ∃ o, look cx σ b = some o ∧ loadO cx t off o = some v := by
  unfold loadVar loadO loadCells
  cases hi : ty cx t with
  | none => simp
  | some i =>
    simp only [Option.bind_eq_bind, Option.bind_some, Option.isNone_none, guard', if_true]
    cases hl : look cx σ b with
    | none => cases isAggD i.desc <;> simp
    | some o =>
      cases ha : isAggD i.desc with
      | true =>
        simp only [Option.bind_some, Option.some.injEq, exists_eq_left', if_true, cond_true]
        by_cases hh : off + i.size ≤ o.cells.length
        · rw [Nat.ble_eq_true_of_le hh]; simp
        · have hb : Nat.ble (off + i.size) o.cells.length = false := by
            cases hb : Nat.ble (off + i.size) o.cells.length
            · rfl
            · exact absurd (Nat.le_of_ble_eq_true hb) hh
          rw [hb]; simp
      | false =>
        have key : (match (if Nat.ble (off + 1) o.cells.length = true then some ((o.cells.drop off).take 1) else none) with
            | some [v] => some v
            | _ => none) = o.cells[off]? := by
          cases hb : Nat.ble (off + 1) o.cells.length with
          | false =>
            have : o.cells[off]? = none := by
              apply List.getElem?_eq_none
              cases Nat.lt_or_ge off o.cells.length with
              | inl h => rw [Nat.ble_eq_true_of_le h] at hb; cases hb
              | inr h => exact h
            simp [this]
          | true =>
            have hlt : off < o.cells.length := Nat.le_of_ble_eq_true hb
            rw [List.getElem?_eq_getElem hlt, if_pos rfl, (take_one (v := o.cells[off])).2 (List.getElem?_eq_getElem hlt)]
        have e2 : ((if Nat.ble (off + 1) o.cells.length = true then some () else none).bind fun _ => some ((o.cells.drop off).take 1)) = (if Nat.ble (off + 1) o.cells.length = true then some ((o.cells.drop off).take 1) else none) := by
          cases Nat.ble (off + 1) o.cells.length <;> rfl
        simp only [Option.bind_some, e2, cond_false]
        constructor
        · intro h
          refine ⟨o, rfl, key.symm.trans ?_⟩
          revert h
          cases Nat.ble (off + 1) o.cells.length
          · simp
          · simp only [if_true, Option.bind_some]
            intro h
            simp only [Bool.false_eq_true, if_false] at h
            split at h
            · rename_i u hu
              rw [hu]
              exact h
            · cases h
        · rintro ⟨o', e, h⟩
          injection e with e
          subst e
          have h := key.trans h
          revert h
          cases Nat.ble (off + 1) o.cells.length
          · simp
          · simp only [if_true, Option.bind_some]
            intro h
            simp only [Bool.false_eq_true, if_false]
            split at h
            · rename_i u hu
              injection hu with hu
              rw [hu]
              exact h
            · cases h
theorem Wld_ptr {t : TypeId} {b off : Nat} {K : Value → Prop} : Wld cx σ t (.pointer (some ⟨b, off, none⟩)) K = WldO cx t off (look cx σ b) K := by
  refine propext ⟨fun ⟨a, v, e, h, k⟩ => ?_, fun ⟨o, h, v, h2, k⟩ => ⟨_, v, rfl, loadVar_eq.2 ⟨o, h, h2⟩, k⟩⟩
  injection e with e
  injection e with e
  subst e
  obtain ⟨o, h1, h2⟩ := loadVar_eq.1 h
  exact ⟨o, h1, v, h2, k⟩
def putO (σ : St) (b off : Nat) (vs : List Value) : SObj → Option St
  | .row cs e => cond (Nat.ble (off + vs.length) cs.length) (some (σ.set b (.row (splice cs off vs) e))) none
  | .opn cs e s c => cond (Nat.ble (off + vs.length) cs.length) (some (σ.set b (.opn (splice cs off vs) e s c))) none
  | .ro _ => none
def storeO (cx : Ctx) (σ : St) (t : TypeId) (b off : Nat) (o : SObj) (v : Value) : Option St := (ty cx t).bind fun i =>
  cond (v.cells.size == i.size && v.cells.toList.all (·.oneCell')) (putO σ b off v.cells.toList o) none
def WstO (cx : Ctx) (σ : St) (t : TypeId) (b off : Nat) (m : Option SObj) (v : Value) (K : Value → St → Prop) : Prop := ∃ o σ', m = some o ∧ storeO cx σ t b off o v = some σ' ∧ K undef σ'
theorem WstO_congr {t : TypeId} {b off : Nat} {m m' : Option SObj} {v v' : Value} (h : m = m') (h' : v = v') : WstO cx σ t b off m v K = WstO cx σ t b off m' v' K := by rw [h, h']
theorem WstO_of {t : TypeId} {b off : Nat} {o : SObj} {v : Value} (h : storeO cx σ t b off o v = some σ') : WstO cx σ t b off (some o) v K = K undef σ' :=
  propext ⟨fun ⟨o', s, e, h1, k⟩ => by
    injection e with e
    subst e
    rw [h] at h1
    injection h1 with h1
    subst h1
    exact k, fun k => ⟨o, σ', rfl, h, k⟩⟩
theorem storeVar_eq {t : TypeId} {b off : Nat} {v : Value} : storeVar cx σ t ⟨b, off, none⟩ v = some σ' ↔ ∃ o, look cx σ b = some o ∧ storeO cx σ t b off o v = some σ' := by
  unfold storeVar storeO storeCells
  cases hi : ty cx t with
  | none => simp
  | some i =>
    simp only [Option.bind_eq_bind, Option.bind_some, guard', Option.isNone_none, if_true]
    cases h1 : (v.cells.size == i.size) with
    | false => simp
    | true =>
      cases h2 : v.cells.toList.all (·.oneCell') with
      | false => simp
      | true =>
        simp only [if_true, Option.bind_some, Bool.and_self, cond_true]
        cases hl : look cx σ b with
        | none => simp
        | some o =>
          simp only [Option.some.injEq, exists_eq_left']
          cases o with
          | ro cs => simp [putO]
          | row cs e =>
            simp only [putO]
            cases Nat.ble (off + v.cells.toList.length) cs.length <;> simp
          | opn cs e s c =>
            simp only [putO]
            cases Nat.ble (off + v.cells.toList.length) cs.length <;> simp
theorem Wst_ptr {t : TypeId} {b off : Nat} {v : Value} : Wst cx σ t (.pointer (some ⟨b, off, none⟩)) v K = WstO cx σ t b off (look cx σ b) v K := by
  refine propext ⟨fun ⟨u, s, h, k⟩ => ?_, fun ⟨o, s, h1, h2, k⟩ => ⟨undef, s, ?_, k⟩⟩
  · unfold opStore at h
    simp only [addrOf, Option.bind_eq_bind, Option.bind_some, Option.bind_eq_some_iff] at h
    obtain ⟨s', h1, h2⟩ := h
    injection h2 with h2
    injection h2 with h2 h3
    subst h2 h3
    obtain ⟨o, h4, h5⟩ := storeVar_eq.1 h1
    exact ⟨o, _, h4, h5, k⟩
  · unfold opStore
    simp only [addrOf, Option.bind_eq_bind, Option.bind_some, storeVar_eq.2 ⟨o, h1, h2⟩]
theorem elAt_some {p o j : Nat} : elAt (some ⟨p, o, none⟩) j = ⟨p, o + j, none⟩ := by
  show (⟨p, o, none⟩ : Addr).add j = _
  unfold Addr.add
  by_cases h : j = 0
  · simp [h]
  · simp [h]
theorem Wia_sl {t elem : TypeId} {ti ei : TI} {s : Nat} {b : Option Addr} {n c : Nat} {cs : List Value} {k : IntKind} {i : Nat} {K : Value → Prop} (ht : ty cx t = some ti) (hd : ti.desc = .slice elem) (he : ty cx elem = some ei)
    (h : Sl cx σ s b n c cs) (hi : i < n) : Wia cx t (.slice b n c) (.int k (i : Int)) K = K (.pointer (some (elAt b (i * ei.size)))) := by
  unfold Wia
  rw [op_indexAddr ht hd he h hi, Wo_some]
theorem Wld_el {t : TypeId} {ti : TI} {s : Nat} {b : Option Addr} {n c : Nat} {cs : List Value} {i : Nat} {v : Value} {K : Value → Prop} (ht : ty cx t = some ti) (hd : isAggD ti.desc = false) (h : Sl cx σ s b n c cs) (hv : cs[i]? = some v) :
    Wld cx σ t (.pointer (some (elAt b i))) K = K v := by
  refine Wld_of ?_
  have := load_one ht hd h hv
  unfold opLoad at this
  simp only [addrOf, Option.bind_eq_bind, Option.bind_some, Option.bind_eq_some_iff] at this
  obtain ⟨u, h1, h2⟩ := this
  injection h2 with h2
  injection h2 with h2
  rw [← h2]
  exact h1
theorem Wld_elAgg {t : TypeId} {ti : TI} {s : Nat} {b : Option Addr} {n c : Nat} {cs : List Value} {i : Nat} {K : Value → Prop} (ht : ty cx t = some ti) (hd : isAggD ti.desc = true) (hp : 0 < ti.size) (h : Sl cx σ s b n c cs) (hi : i + ti.size ≤ n * s) :
    Wld cx σ t (.pointer (some (elAt b i))) K = K (.agg ⟨(cs.drop i).take ti.size⟩) := by
  refine Wld_of ?_
  unfold loadVar
  simp only [ht, Option.bind_eq_bind, Option.bind_some, hd, if_true, load_cells h (fun e => by have := (h.nil e).1; subst this; omega) (Nat.pos_of_ne_zero fun e => by subst e; omega) hi]
theorem Wsl_to {t elem : TypeId} {ti ei : TI} {s : Nat} {b : Option Addr} {n c m : Nat} {cs : List Value} {k : IntKind} (ht : ty cx t = some ti) (hd : ti.desc = .slice elem) (he : ty cx elem = some ei)
    (h : Sl cx σ s b n c cs) (hm : m ≤ n) : Wsl cx σ t (.slice b n c) none (some (.int k (m : Int))) none K = K (.slice b m c) σ := by
  have e : opSlice cx σ t (.slice b n c) none (some (.int k (m : Int))) none = some (.val (.slice b m c) σ) := by
    have hb : ∀ cap, m ≤ cap → bounds n cap none (some (.int k (m : Int))) none = some (0, m, cap) := fun cap hc => by
      unfold bounds bMax bHigh bLow
      simp only [Option.bind_some]
      have : natOf (.int k (m : Int)) cap = some m := by
        show cond (Nat.ble m cap) _ _ = _
        rw [Nat.ble_eq_true_of_le hc]; rfl
      rw [this]
      rfl
    have hz : b.map (·.add 0) = b := by
      cases b with
      | none => rfl
      | some a => simp [Addr.add]
    unfold opSlice
    simp only [Option.bind_eq_bind, ht, Option.bind_some, hd, he]
    rcases h.cap with ⟨h1, h2⟩ | ⟨h1, h2, lo, h3, h4⟩
    · rw [if_pos h1, hb c (by omega)]
      simp only [Option.bind_some, Nat.zero_mul, Nat.sub_zero, hz, ite_self]
    · rw [if_neg (by omega)]
      change σ.caps.get (c - capBase) = some lo at h3
      simp only [h3, Option.bind_some, guard', h4, decide_true, if_true, hb lo (by omega), Nat.sub_zero]
  unfold Wsl
  rw [e]
  exact Wr_some
theorem Wsl_cap {t elem : TypeId} {ti ei : TI} {s : Nat} {b : Option Addr} {n c m : Nat} {cs : List Value} {k k' : IntKind} (ht : ty cx t = some ti) (hd : ti.desc = .slice elem) (he : ty cx elem = some ei)
    (h : Sl cx σ s b n c cs) (hm : m ≤ n) : Wsl cx σ t (.slice b n c) none (some (.int k (m : Int))) (some (.int k' (m : Int))) K = K (.slice b m m) σ := by
  have e : opSlice cx σ t (.slice b n c) none (some (.int k (m : Int))) (some (.int k' (m : Int))) = some (.val (.slice b m m) σ) := by
    have hb : ∀ cap, m ≤ cap → bounds n cap none (some (.int k (m : Int))) (some (.int k' (m : Int))) = some (0, m, m) := fun cap hc => by
      have h1 : ∀ (k : IntKind) top, m ≤ top → natOf (.int k (m : Int)) top = some m := fun k top hc => by
        show cond (Nat.ble m top) _ _ = _
        rw [Nat.ble_eq_true_of_le hc]; rfl
      unfold bounds bMax bHigh bLow
      simp only [h1 k' cap hc, Option.bind_some, h1 k m (Nat.le_refl m)]
    have hz : b.map (·.add 0) = b := by
      cases b with
      | none => rfl
      | some a => simp [Addr.add]
    unfold opSlice
    simp only [Option.bind_eq_bind, ht, Option.bind_some, hd, he]
    rcases h.cap with ⟨h1, h2⟩ | ⟨h1, h2, lo, h3, h4⟩
    · rw [if_pos h1, hb c (by omega)]
      simp only [Option.bind_some, Nat.zero_mul, Nat.sub_zero, hz, ite_self]
    · rw [if_neg (by omega)]
      change σ.caps.get (c - capBase) = some lo at h3
      simp only [h3, Option.bind_some, hb lo (by omega), Nat.sub_zero, Nat.zero_mul, hz, ite_self]
  unfold Wsl
  rw [e]
  exact Wr_some
theorem Wmk_of {t elem : TypeId} {ti ei : TI} {z : Value} {m : Nat} {k k' : IntKind} (ht : ty cx t = some ti) (hd : ti.desc = .slice elem) (he : ty cx elem = some ei) (hz : ei.zero = some z) (hzs : z.cells.size = ei.size) (hp : ei.bytes ≤ 1000000 ∧ 0 < ei.size) (hm : m ≤ 1000000) :
    Wmk cx σ t (.int k (m : Int)) (.int k' (m : Int)) K = K (.slice (some ⟨σ.next, 0, none⟩) m m) (σ.add (.row (zeros z.cells.toList m) elem)) := by
  have hn : ∀ (k : IntKind) top, m ≤ top → natOf (.int k (m : Int)) top = some m := fun k top hc => by
    show cond (Nat.ble m top) _ _ = _
    rw [Nat.ble_eq_true_of_le hc]; rfl
  unfold Wmk opMakeSlice
  simp only [Option.bind_eq_bind, ht, Option.bind_some, hd, he, hn k' _ hm, hn k m (Nat.le_refl m), guard', hp, and_self, decide_true, if_true, hz, hzs, beq_self_eq_true, newRow]
  exact Wr_some
theorem Wfn_plain {f : FuncId} {fn : Func} {l : List Value} (hf : cx.fn.get f = some fn) (hb : fn.body.isSome = true) (hk : cx.known.get f = none) :
    Wfn cx σ (.func (.func f) #[] #[]) l K = C cx f l σ K := by
  have e : callValue cx σ l (.func (.func f) #[] #[]) = some (.enter f l) := by
    show (cx.fn.get f).bind (callFn cx σ f _) = _
    rw [hf]
    show callFn cx σ f _ fn = _
    unfold callFn
    cases hc : fn.body with
    | none => rw [hc] at hb; cases hb
    | some c => simp
  unfold Wfn
  rw [e]
  refine propext ⟨fun k => ?_, fun k => .inr ⟨f, _, rfl, .inl ⟨hk, k⟩⟩⟩
  rcases k with ⟨v, s, h, _⟩ | ⟨f', args', h, k⟩
  · cases h
  · injection h with h
    injection h with h1 h2
    subst h1 h2
    rcases k with ⟨_, k⟩ | ⟨v, h1, _⟩
    · exact k
    · rw [known_none hk] at h1
      cases h1
theorem Wfn_known {f : FuncId} {fn : Func} {l : List Value} {v : Value} (hf : cx.fn.get f = some fn) (hb : fn.body.isSome = true) (hk : known cx f l σ = some (v, σ)) (h : K v σ) :
    Wfn cx σ (.func (.func f) #[] #[]) l K := by
  have e : callValue cx σ l (.func (.func f) #[] #[]) = some (.enter f l) := by
    show (cx.fn.get f).bind (callFn cx σ f _) = _
    rw [hf]
    show callFn cx σ f _ fn = _
    unfold callFn
    cases hc : fn.body with
    | none => rw [hc] at hb; cases hb
    | some c => simp
  unfold Wfn
  rw [e]
  exact .inr ⟨f, _, rfl, .inr ⟨v, hk, h⟩⟩
theorem Wop_len {x : Operand} {t : TypeId} {ts : Array TypeId} {ti : TI} {elem : TypeId} {args : Array Operand} (ht : ty cx t = some ti) (hd : ti.desc = .slice elem) (ha : args = #[x]) (hts : ts = #[t]) :
    Wop cx ty' (.call { callee := .builtin .len, args := args, argTypes := ts }) g σ K = Wlen (ev g x) fun v => K v σ := by
  subst ha hts
  have hs : symOpE cx (ev g) σ (.call { callee := .builtin .len, args := #[x], argTypes := #[t] }) ty' = val σ (opLen cx t (ev g x)) := rfl
  rw [Wop_of hs]
  unfold opLen
  simp only [Option.bind_eq_bind, ht, Option.bind_some, hd]
  cases hx : ev g x with
  | slice b n c => rw [Wlen_slice]; exact Wo_some
  | _ => exact propext ⟨fun ⟨v, h, _⟩ => (by cases h), fun ⟨_, _, _, e, _⟩ => (by cases e)⟩
theorem Wop_call {f : Operand} {args : Array Operand} {ts : Array TypeId} : Wop cx ty' (.call { callee := .value f, args := args, argTypes := ts }) g σ K = Wfn cx σ (ev g f) (args.toList.map (ev g)) K := propext ⟨fun h => h.imp id And.right, fun h => h.imp id fun k => ⟨rfl, k⟩⟩
theorem Wfn_congr {v v' : Value} {args args' : List Value} (h : v = v') (h' : args = args') : Wfn cx σ v args K = Wfn cx σ v' args' K := by rw [h, h']
theorem Wfn_fn {f : FuncId} {fn : Func} {args first captured : Array Value} {l : List Value} (hf : cx.fn.get f = some fn) (hb : fn.body.isSome = true) (hk : cx.known.get f = none) :
    Wfn cx σ (.func (.func f) first captured) l K = C cx f (first.toList ++ l ++ captured.toList) σ K := by
  have e : callValue cx σ l (.func (.func f) first captured) = some (.enter f (first.toList ++ l ++ captured.toList)) := by
    show (cx.fn.get f).bind (callFn cx σ f _) = _
    rw [hf]
    show callFn cx σ f _ fn = _
    unfold callFn
    cases hc : fn.body with
    | none => rw [hc] at hb; cases hb
    | some c => rfl
  unfold Wfn
  rw [e]
  refine propext ⟨fun k => ?_, fun k => .inr ⟨f, _, rfl, .inl ⟨hk, k⟩⟩⟩
  rcases k with ⟨v, s, h, _⟩ | ⟨f', args', h, k⟩
  · cases h
  · injection h with h
    injection h with h1 h2
    subst h1 h2
    rcases k with ⟨_, k⟩ | ⟨v, h1, _⟩
    · exact k
    · rw [known_none hk] at h1
      cases h1
theorem C_congr {f : FuncId} {args args' : List Value} (h : args = args') : C cx f args σ K = C cx f args' σ K := by rw [h]
attribute [go_sem ↓] Wc_skip Wc_exit Wc_ret Wc_region Wc_draw Wc_seq Wc_cond Wc_block Wc_loop seqQ_normal seqQ_exit seqQ_ret W_nil W_some W_none W_gd blk_int blk_bool blk_slice blk_ptr blk_agg blk_tuple blk_func blk_str blk_undef Wop_move Wop_assign Wop_pick Wop_bin Wop_un Wop_conv Wop_fa Wop_fd Wop_ia Wop_bd Wop_ext Wop_ld Wop_st Wop_al Wop_box Wop_call Wop_bs Wop_mk Wop_sl Wop_ap Wop_mf Wpick_and Wpick_or Wpick_true Wpick_false Wgd_tt Wgd_un Wgd_ff Wgd_tf Wgd_ft Wcond_true Wcond_false Wbin_add Wbin_sub Wbin_mul Wbin_eql Wbin_neq Wbin_lss Wbin_leq Wbin_gtr Wbin_geq Wlen_slice bodyW_ret bodyW_normal WQs_nil WQs_tmp WQs_cell blockQ_eq blockQ_normal blockQ_ret loopQ_normal loopQ_exit loopQ_ret Wgd'_some Wbox_of Wld_ptr Wst_ptr WldO_some
attribute [go_sem] decide_true decide_false Option.map_some Option.map_none Bool.true_and Bool.false_and Bool.and_true Bool.and_false List.map_cons List.map_nil List.nil_append List.cons_append Value.cells List.toList_toArray
attribute [go_sem] ev_tmp ev_const ev_func ev_global setF_same setF_ne argsF_zero argsF_succ dstAt_zero dstAt_succ wrap_one wrap_two wrap_three add_next set_next fresh_next low_next look_add look_add_lt look_set look_set_ne look_fresh look_low
end
end Go.Sym
namespace Go.Sym
open Go
noncomputable section
set_option linter.unusedVariables false
theorem okF_of {all : Array Oper} {i : Nat} {o : Op} {fp : FP} (h : clsOk (cls o) fp = True) : okF all i o fp = True := eq_true (.inl (of_eq_true h))
def both (P Q : Prop) : Prop := P ∧ Q
theorem both_true {Q : Prop} : both True Q = Q := true_and Q
def St.lw (σ : St) (a : Nat) : St := { σ with low := a }
section
variable {cx : Ctx} {g : Fm} {σ : St} {a b : Nat}
theorem lw_lw : (σ.lw a).lw b = σ.lw b := Eq.trans rfl rfl
theorem lw_next : (σ.lw a).next = σ.next := Eq.trans rfl rfl
theorem lw_low : (σ.lw a).low = a := Eq.trans rfl rfl
theorem fresh_low : σ.fresh.low = σ.next := Eq.trans rfl rfl
theorem look_lw {i : Nat} : look cx (σ.lw a) i = look cx σ i := Eq.trans rfl rfl
theorem min_min' : min (min a b) b = min a b := by omega
theorem Ext'.lw {σ0 : St} (h : Ext' σ0 σ) (ha : min σ0.low σ0.next ≤ a) (hb : a ≤ σ.next) : Ext' σ0 (σ.lw a) := h.setLow ha hb
theorem Ext'.to_lw : Ext' σ (σ.lw σ.next) := Ext'.to_fresh σ
section
variable {all : Array Oper} {d : Tmp} {op : Op} {ty : TypeId} {pos : String} {after : Array Edge} {r : List Oper} {K : Fm → St → Prop}
theorem W2_nil : W2 cx all [] g σ K = K g σ := Eq.trans rfl rfl
theorem W2_gd {j : Nat} {want : Bool} : W2 cx all (⟨some d, op, ty, pos, after, some (j, want)⟩ :: r) g σ K =
    Wgd' g (dstAt all.toList j) want (blkP (W2 cx all (⟨some d, op, ty, pos, after, none⟩ :: r) g σ K) (tag _)) (blkP (W2 cx all r (setF g d undef) σ K) (tag _)) := Eq.trans rfl rfl
theorem W2_some : W2 cx all (⟨some d, op, ty, pos, after, none⟩ :: r) g σ K =
    Wop cx ty op g (σ.lw σ.next) (blk (fun v σ' => both (okF all (all.toList.length - (r.length + 1)) op (fpE (ev g) σ.next σ'.low op)) (W2 cx all r (setF g d v) (σ'.lw (min σ.low σ'.low)) K)) (tag _)) := Eq.trans rfl rfl
theorem W2_none : W2 cx all (⟨none, op, ty, pos, after, none⟩ :: r) g σ K =
    Wop cx ty op g (σ.lw σ.next) (blk (fun _ σ' => both (okF all (all.toList.length - (r.length + 1)) op (fpE (ev g) σ.next σ'.low op)) (W2 cx all r g (σ'.lw (min σ.low σ'.low)) K)) (tag _)) := Eq.trans rfl rfl
end
section
variable {e : Operand → Value} {n l : Nat} {x y z : Operand} {t u : TypeId} {k : Nat}
theorem cls_move : clsOk (cls (.move x)) (fpE e n l (.move x)) = True := eq_true rfl
theorem cls_assign : clsOk (cls (.assign x)) (fpE e n l (.assign x)) = True := eq_true rfl
theorem cls_pick : clsOk (cls (.pick x y z)) (fpE e n l (.pick x y z)) = True := eq_true rfl
theorem cls_bin {o : BinOp} : clsOk (cls (.binOp o t x y u)) (fpE e n l (.binOp o t x y u)) = True := eq_true rfl
theorem cls_un {o : UnOp} : clsOk (cls (.unOp o t x)) (fpE e n l (.unOp o t x)) = True := eq_true rfl
theorem cls_conv : clsOk (cls (.convert t u x)) (fpE e n l (.convert t u x)) = True := eq_true rfl
theorem cls_fa : clsOk (cls (.fieldAddr t x k)) (fpE e n l (.fieldAddr t x k)) = True := eq_true rfl
theorem cls_fd : clsOk (cls (.field t x k)) (fpE e n l (.field t x k)) = True := eq_true rfl
theorem cls_ia : clsOk (cls (.indexAddr t x y)) (fpE e n l (.indexAddr t x y)) = True := eq_true rfl
theorem cls_bd {ps : Array (Nat × Operand)} : clsOk (cls (.build t ps)) (fpE e n l (.build t ps)) = True := eq_true rfl
theorem cls_ext : clsOk (cls (.extract x k)) (fpE e n l (.extract x k)) = True := eq_true rfl
theorem cls_sl {a b c : Option Operand} : clsOk (cls (.slice t x a b c)) (fpE e n l (.slice t x a b c)) = True := eq_true rfl
theorem cls_len {as : Array Operand} {ts : Array TypeId} : clsOk (cls (.call { callee := .builtin .len, args := as, argTypes := ts })) (fpE e n l (.call { callee := .builtin .len, args := as, argTypes := ts })) = True := eq_true rfl
theorem cls_ld : clsOk (cls (.load t x)) (fpE e n l (.load t x)) = True := eq_true (.inl ⟨_, _, rfl⟩)
theorem cls_al : clsOk (cls (.alloc t)) (fpE e n l (.alloc t)) = True := eq_true (.inl ⟨_, _, rfl⟩)
theorem cls_box : clsOk (cls (.box t x)) (fpE e n l (.box t x)) = True := eq_true (.inl ⟨_, _, rfl⟩)
theorem cls_mk : clsOk (cls (.makeSlice t x y)) (fpE e n l (.makeSlice t x y)) = True := eq_true (.inl ⟨_, _, rfl⟩)
theorem cls_bs {m : Nat} {ps : Array (Nat × Operand)} : clsOk (cls (.buildSlice t m ps)) (fpE e n l (.buildSlice t m ps)) = True := eq_true (.inl ⟨_, _, rfl⟩)
theorem cls_st : clsOk (cls (.store t x y)) (fpE e n l (.store t x y)) = True := eq_true trivial
theorem cls_call {as : Array Operand} {ts : Array TypeId} (h : n ≤ l) : clsOk (cls (.call { callee := .value x, args := as, argTypes := ts })) (fpE e n l (.call { callee := .value x, args := as, argTypes := ts })) = True := eq_true (.inr (by
  show FP.all (Nat.blt l n) = .all false
  have : Nat.blt l n = false := by
    cases hb : Nat.blt l n with
    | false => rfl
    | true => rw [Nat.blt_eq] at hb; omega
  rw [this]))
end
end
def keepOp : Op → Bool
  | .move _ | .assign _ | .pick .. | .build .. | .binOp .. | .unOp .. | .convert .. | .fieldAddr .. | .field .. | .indexAddr .. | .extract .. | .load .. => true
  | .call { callee := .builtin .len, .. } => true
  | _ => false
theorem keep_lw {cx : Ctx} {e : Operand → Value} {σ : St} {a : Nat} {op : Op} {ty : TypeId} (h : keepOp op = true) : ∃ m, symOpE cx e (σ.lw a) op ty = val (σ.lw a) m ∧ symOpE cx e σ op ty = val σ m := by
  cases op
  case move x => exact ⟨some (e x), rfl, rfl⟩
  case assign x => exact ⟨some (e x), rfl, rfl⟩
  case pick c x y =>
    refine ⟨(match e c with | .bool b => some (cond b (e x) (e y)) | _ => none), ?_, ?_⟩
    · show opPick (σ.lw a) (e c) (e x) (e y) = _
      cases e c <;> rfl
    · show opPick σ (e c) (e x) (e y) = _
      cases e c <;> rfl
  case build t ps => exact ⟨_, rfl, rfl⟩
  case binOp o t x y u => exact ⟨_, rfl, rfl⟩
  case fieldAddr t x k => exact ⟨_, rfl, rfl⟩
  case field t x k => exact ⟨_, rfl, rfl⟩
  case indexAddr t x y => exact ⟨_, rfl, rfl⟩
  case unOp q t x =>
    refine ⟨if plain (e x) then pureV cx.P (Op.unary q (e x)) else none, ?_, ?_⟩
    · show (guard' (plain (e x)) >>= fun _ => val (σ.lw a) _) = _
      cases plain (e x) <;> rfl
    · show (guard' (plain (e x)) >>= fun _ => val σ _) = _
      cases plain (e x) <;> rfl
  case convert s d x =>
    refine ⟨if plain (e x) then pureV cx.P (convert s d (e x)) else none, ?_, ?_⟩
    · show (guard' (plain (e x)) >>= fun _ => val (σ.lw a) _) = _
      cases plain (e x) <;> rfl
    · show (guard' (plain (e x)) >>= fun _ => val σ _) = _
      cases plain (e x) <;> rfl
  case extract x k =>
    refine ⟨(match e x with | .tuple vs => vs.toList[k]? | _ => none), ?_, ?_⟩
    · show opExtract (σ.lw a) k (e x) = _
      cases e x <;> rfl
    · show opExtract σ k (e x) = _
      cases e x <;> rfl
  case load t x =>
    refine ⟨(addrOf (e x)).bind fun ad => loadVar cx σ t ad, ?_, ?_⟩
    · show (addrOf (e x) >>= fun ad => loadVar cx σ t ad >>= fun v => some (Res.val v (σ.lw a))) = _
      cases addrOf (e x) with
      | none => rfl
      | some ad =>
        show (loadVar cx σ t ad >>= fun v => some (Res.val v (σ.lw a))) = val (σ.lw a) (loadVar cx σ t ad)
        cases loadVar cx σ t ad <;> rfl
    · show (addrOf (e x) >>= fun ad => loadVar cx σ t ad >>= fun v => some (Res.val v σ)) = _
      cases addrOf (e x) with
      | none => rfl
      | some ad =>
        show (loadVar cx σ t ad >>= fun v => some (Res.val v σ)) = val σ (loadVar cx σ t ad)
        cases loadVar cx σ t ad <;> rfl
  case call c =>
    obtain ⟨cal, as, ts⟩ := c
    cases cal with
    | builtin b =>
      cases b <;> try (cases h; done)
      refine ⟨(match ts.toList, as.toList.map e with | t :: _, x :: _ => opLen cx t x | _, _ => none), ?_, ?_⟩
      · show callLen cx (σ.lw a) ts.toList (as.toList.map e) = _
        cases ts.toList <;> cases as.toList.map e <;> rfl
      · show callLen cx σ ts.toList (as.toList.map e) = _
        cases ts.toList <;> cases as.toList.map e <;> rfl
    | _ => cases h
  all_goals cases h
theorem keep_cls {op : Op} {e : Operand → Value} {n l : Nat} (h : keepOp op = true) : clsOk (cls op) (fpE e n l op) = True := by
  cases op <;> try (cases h; done)
  all_goals first | exact eq_true rfl | exact eq_true (.inl ⟨_, _, rfl⟩) | skip
  case call c =>
    obtain ⟨cal, as, ts⟩ := c
    cases cal with
    | builtin b =>
      cases b <;> try (cases h; done)
      exact eq_true rfl
    | _ => cases h
theorem keep_fn {op : Op} (h : keepOp op = true) : isFnCall op = false := by
  cases op <;> try (first | rfl | (cases h; done))
  case call c =>
    obtain ⟨cal, as, ts⟩ := c
    cases cal with
    | builtin b => rfl
    | _ => cases h
theorem lw_self {σ : St} {a : Nat} (h : a = σ.low) : σ.lw a = σ := by subst h; rfl
theorem W2_keep {cx : Ctx} {all : Array Oper} {g : Fm} {σ : St} {d : Tmp} {op : Op} {ty : TypeId} {pos : String} {after : Array Edge} {r : List Oper} {K : Fm → St → Prop} (h : keepOp op = true) (hl : σ.low ≤ σ.next) :
    W2 cx all (⟨some d, op, ty, pos, after, none⟩ :: r) g σ K = Wop cx ty op g σ (blk (fun v _ => W2 cx all r (setF g d v) σ K) (tag _)) := by
  obtain ⟨m, h1, h2⟩ := keep_lw (cx := cx) (e := ev g) (σ := σ) (a := σ.next) (ty := ty) h
  rw [W2_some, Wop_of h1, Wop_of h2]
  congr 1
  funext v
  show both (okF all _ op _) (W2 cx all r (setF g d v) ((σ.lw σ.next).lw (min σ.low σ.next)) K) = W2 cx all r (setF g d v) σ K
  rw [okF_of (keep_cls h), both_true, lw_lw, lw_self (by omega)]
section
variable {cx : Ctx} {all : Array Oper} {g : Fm} {σ : St} {d : Tmp} {ty : TypeId} {pos : String} {after : Array Edge} {r : List Oper} {K : Fm → St → Prop} {x y z : Operand} {t u : TypeId} {j : Nat} {o : BinOp} {q : UnOp} {ps : Array (Nat × Operand)} {as : Array Operand} {ts : Array TypeId}
theorem W2_move (hl : σ.low ≤ σ.next) : W2 cx all (⟨some d, (.move x), ty, pos, after, none⟩ :: r) g σ K = Wop cx ty (.move x) g σ (blk (fun v _ => W2 cx all r (setF g d v) σ K) (tag _)) := W2_keep rfl hl
theorem W2_assign (hl : σ.low ≤ σ.next) : W2 cx all (⟨some d, (.assign x), ty, pos, after, none⟩ :: r) g σ K = Wop cx ty (.assign x) g σ (blk (fun v _ => W2 cx all r (setF g d v) σ K) (tag _)) := W2_keep rfl hl
theorem W2_pick (hl : σ.low ≤ σ.next) : W2 cx all (⟨some d, (.pick x y z), ty, pos, after, none⟩ :: r) g σ K = Wop cx ty (.pick x y z) g σ (blk (fun v _ => W2 cx all r (setF g d v) σ K) (tag _)) := W2_keep rfl hl
theorem W2_bin (hl : σ.low ≤ σ.next) : W2 cx all (⟨some d, (.binOp o t x y u), ty, pos, after, none⟩ :: r) g σ K = Wop cx ty (.binOp o t x y u) g σ (blk (fun v _ => W2 cx all r (setF g d v) σ K) (tag _)) := W2_keep rfl hl
theorem W2_un (hl : σ.low ≤ σ.next) : W2 cx all (⟨some d, (.unOp q t x), ty, pos, after, none⟩ :: r) g σ K = Wop cx ty (.unOp q t x) g σ (blk (fun v _ => W2 cx all r (setF g d v) σ K) (tag _)) := W2_keep rfl hl
theorem W2_conv (hl : σ.low ≤ σ.next) : W2 cx all (⟨some d, (.convert t u x), ty, pos, after, none⟩ :: r) g σ K = Wop cx ty (.convert t u x) g σ (blk (fun v _ => W2 cx all r (setF g d v) σ K) (tag _)) := W2_keep rfl hl
theorem W2_fa (hl : σ.low ≤ σ.next) : W2 cx all (⟨some d, (.fieldAddr t x j), ty, pos, after, none⟩ :: r) g σ K = Wop cx ty (.fieldAddr t x j) g σ (blk (fun v _ => W2 cx all r (setF g d v) σ K) (tag _)) := W2_keep rfl hl
theorem W2_fd (hl : σ.low ≤ σ.next) : W2 cx all (⟨some d, (.field t x j), ty, pos, after, none⟩ :: r) g σ K = Wop cx ty (.field t x j) g σ (blk (fun v _ => W2 cx all r (setF g d v) σ K) (tag _)) := W2_keep rfl hl
theorem W2_ia (hl : σ.low ≤ σ.next) : W2 cx all (⟨some d, (.indexAddr t x y), ty, pos, after, none⟩ :: r) g σ K = Wop cx ty (.indexAddr t x y) g σ (blk (fun v _ => W2 cx all r (setF g d v) σ K) (tag _)) := W2_keep rfl hl
theorem W2_bd (hl : σ.low ≤ σ.next) : W2 cx all (⟨some d, (.build t ps), ty, pos, after, none⟩ :: r) g σ K = Wop cx ty (.build t ps) g σ (blk (fun v _ => W2 cx all r (setF g d v) σ K) (tag _)) := W2_keep rfl hl
theorem W2_ext (hl : σ.low ≤ σ.next) : W2 cx all (⟨some d, (.extract x j), ty, pos, after, none⟩ :: r) g σ K = Wop cx ty (.extract x j) g σ (blk (fun v _ => W2 cx all r (setF g d v) σ K) (tag _)) := W2_keep rfl hl
theorem W2_ld (hl : σ.low ≤ σ.next) : W2 cx all (⟨some d, (.load t x), ty, pos, after, none⟩ :: r) g σ K = Wop cx ty (.load t x) g σ (blk (fun v _ => W2 cx all r (setF g d v) σ K) (tag _)) := W2_keep rfl hl
theorem W2_len (hl : σ.low ≤ σ.next) : W2 cx all (⟨some d, (.call { callee := .builtin .len, args := as, argTypes := ts }), ty, pos, after, none⟩ :: r) g σ K = Wop cx ty (.call { callee := .builtin .len, args := as, argTypes := ts }) g σ (blk (fun v _ => W2 cx all r (setF g d v) σ K) (tag _)) := W2_keep rfl hl
end
section
variable {cx : Ctx} {all : Array Oper} {g : Fm} {σ : St} {d : Tmp} {ty : TypeId} {pos : String} {after : Array Edge} {r : List Oper} {K : Fm → St → Prop} {x y z : Operand} {t u : TypeId} {m : Nat} {ps : Array (Nat × Operand)} {as : Array Operand} {ts : Array TypeId} {lo hi mx : Option Operand}
theorem W2_call : W2 cx all (⟨some d, (.call { callee := .value x, args := as, argTypes := ts }), ty, pos, after, none⟩ :: r) g σ K = Wop cx ty (.call { callee := .value x, args := as, argTypes := ts }) g (σ.lw σ.next) (blk (fun v σ' => both (okF all (all.toList.length - (r.length + 1)) (.call { callee := .value x, args := as, argTypes := ts }) (fpE (ev g) σ.next σ'.low (.call { callee := .value x, args := as, argTypes := ts }))) (W2 cx all r (setF g d v) (σ'.lw (min σ.low σ'.low)) K)) (tag _)) := W2_some
theorem W2_callN : W2 cx all (⟨none, (.call { callee := .value x, args := as, argTypes := ts }), ty, pos, after, none⟩ :: r) g σ K = Wop cx ty (.call { callee := .value x, args := as, argTypes := ts }) g (σ.lw σ.next) (blk (fun _ σ' => both (okF all (all.toList.length - (r.length + 1)) (.call { callee := .value x, args := as, argTypes := ts }) (fpE (ev g) σ.next σ'.low (.call { callee := .value x, args := as, argTypes := ts }))) (W2 cx all r g (σ'.lw (min σ.low σ'.low)) K)) (tag _)) := W2_none
end
theorem W2_of {cx : Ctx} {all : Array Oper} {g : Fm} {σ : St} {d : Option Tmp} {op : Op} {ty : TypeId} {pos : String} {after : Array Edge} {r : List Oper} {K : Fm → St → Prop} (hn : isFnCall op = false) (m : Option (Value × St × St))
    (h1 : symOpE cx (ev g) (σ.lw σ.next) op ty = m.map fun x => .val x.1 x.2.2) (h2 : symOpE cx (ev g) σ op ty = m.map fun x => .val x.1 x.2.1)
    (h3 : ∀ x, m = some x → x.2.2.lw (min σ.low x.2.2.low) = x.2.1 ∧ clsOk (cls op) (fpE (ev g) σ.next x.2.2.low op)) :
    W2 cx all (⟨d, op, ty, pos, after, none⟩ :: r) g σ K = Wop cx ty op g σ fun v σ' => W2 cx all r (setO g d v) σ' K := by
  show Wop cx ty op g (σ.lw σ.next) _ = _
  rw [Wop_r hn h1, Wop_r hn h2]
  cases m with
  | none => exact propext ⟨fun h => (by obtain ⟨_, _, h, _⟩ := h; cases h), fun h => (by obtain ⟨_, _, h, _⟩ := h; cases h)⟩
  | some x =>
    obtain ⟨h4, h5⟩ := h3 x rfl
    simp only [Option.map_some]
    rw [Wr_some, Wr_some]
    change (okF _ _ _ _ ∧ W2 cx all r (setO g d x.1) (x.2.2.lw (min σ.low x.2.2.low)) K) = _
    rw [h4]
    exact propext ⟨fun h => h.2, fun h => ⟨.inl h5, h⟩⟩
theorem lw_add_low {σ : St} {o : SObj} (hl : σ.low ≤ σ.next) : ((σ.lw σ.next).add o).lw (min σ.low ((σ.lw σ.next).add o).low) = σ.add o := by
  show (σ.add o).lw (min σ.low σ.next) = _
  exact lw_self (by show min σ.low σ.next = σ.low; omega)
def mkParts (cx : Ctx) (t : TypeId) (l c : Value) : Option (Nat × Nat × TypeId × List Value) := do
  let i ← ty cx t
  match i.desc with
  | .slice elem =>
    let ei ← ty cx elem
    let c ← natOf c 1000000
    let l ← natOf l c
    guard' (decide (ei.bytes ≤ 1000000 ∧ 0 < ei.size))
    let z ← ei.zero
    guard' (z.cells.size == ei.size)
    some (l, c, elem, zeros z.cells.toList c)
  | _ => none
theorem mk_eq {cx : Ctx} {σ : St} {t : TypeId} {l c : Value} : opMakeSlice cx σ t l c = (mkParts cx t l c).map fun x => .val (.slice (some ⟨σ.next, 0, none⟩) x.1 x.2.1) (σ.add (.row x.2.2.2 x.2.2.1)) := by
  unfold opMakeSlice mkParts
  simp only [Option.bind_eq_bind, Option.map_bind]
  congr 1
  funext i
  simp only [Function.comp]
  cases i.desc <;> first | rfl | skip
  simp only [Option.map_bind, Function.comp_def, Option.map_some, newRow, Option.bind_some]
  rfl
def bsParts (cx : Ctx) (t : TypeId) (len : Nat) (parts : List (Nat × Value)) : Option (TypeId × List Value) := do
  let i ← ty cx t
  match i.desc with
  | .slice elem =>
    let ei ← ty cx elem
    guard' (decide (0 < ei.size ∧ len * ei.size ≤ 1000000))
    let z ← ei.zero
    guard' (z.cells.size == ei.size)
    let cells ← (Instr.fill (fun k => some (k * ei.size, ei.size)) ⟨zeros z.cells.toList len⟩ parts)
    some (elem, cells.toList)
  | _ => none
theorem bs_eq {cx : Ctx} {σ : St} {t : TypeId} {len : Nat} {parts : List (Nat × Value)} : opBuildSlice cx σ t len parts = (bsParts cx t len parts).map fun x => .val (.slice (some ⟨σ.next, 0, none⟩) len len) (σ.add (.row x.2 x.1)) := by
  unfold opBuildSlice bsParts
  simp only [Option.bind_eq_bind, Option.map_bind]
  congr 1
  funext i
  simp only [Function.comp]
  cases i.desc <;> first | rfl | skip
  simp only [Option.map_bind, Function.comp_def, Option.map_some, newRow, Option.bind_some]
  rfl
def alParts (cx : Ctx) (t : TypeId) : Option (List Value) := (ty cx t).bind fun i => i.zero.map fun z => z.cells.toList
theorem al_eq {cx : Ctx} {σ : St} {t : TypeId} : opAlloc cx σ t = (alParts cx t).map fun x => .val (.pointer (some ⟨σ.next, 0, none⟩)) (σ.add (.row x t)) := by
  unfold opAlloc alParts
  cases ty cx t with
  | none => rfl
  | some i =>
    simp only [Option.bind_eq_bind, Option.bind_some]
    cases i.zero <;> rfl
theorem store_lw {cx : Ctx} {σ : St} {t : TypeId} {x y : Value} (hl : σ.low ≤ σ.next) : ∃ m : Option (Value × St × St), opStore cx (σ.lw σ.next) t x y = (m.map fun x => .val x.1 x.2.2) ∧ opStore cx σ t x y = (m.map fun x => .val x.1 x.2.1) ∧
    ∀ x, m = some x → x.2.2.lw (min σ.low x.2.2.low) = x.2.1 := by
  unfold opStore
  cases addrOf x with
  | none => exact ⟨none, rfl, rfl, fun _ h => by cases h⟩
  | some ad =>
    simp only [Option.bind_eq_bind, Option.bind_some]
    unfold storeVar
    cases ty cx t with
    | none => exact ⟨none, rfl, rfl, fun _ h => by cases h⟩
    | some i =>
      simp only [Option.bind_eq_bind, Option.bind_some]
      cases hg : guard' (y.cells.size == i.size) with
      | none => exact ⟨none, rfl, rfl, fun _ h => by cases h⟩
      | some u =>
        simp only [Option.bind_some]
        unfold storeCells
        cases guard' ad.spot.isNone with
        | none => exact ⟨none, rfl, rfl, fun _ h => by cases h⟩
        | some u =>
          cases guard' (y.cells.toList.all (·.oneCell')) with
          | none => exact ⟨none, rfl, rfl, fun _ h => by cases h⟩
          | some u =>
            have e : look cx (σ.lw σ.next) ad.block = look cx σ ad.block := look_lw
            simp only [Option.bind_eq_bind, Option.bind_some, e]
            cases hlk : look cx σ ad.block with
            | none => exact ⟨none, rfl, rfl, fun _ h => by cases h⟩
            | some o =>
              cases o with
              | ro cs => exact ⟨none, rfl, rfl, fun _ h => by cases h⟩
              | row cs e =>
                simp only
                cases guard' (Nat.ble (ad.off + y.cells.toList.length) cs.length) with
                | none => exact ⟨none, rfl, rfl, fun _ h => by cases h⟩
                | some u =>
                  refine ⟨some (undef, σ.set ad.block _, (σ.lw σ.next).set ad.block _), rfl, rfl, fun x hx => ?_⟩
                  injection hx with hx
                  subst hx
                  show St.lw (σ.set ad.block _) (min σ.low (min σ.next ad.block)) = _
                  exact lw_self (by show min σ.low (min σ.next ad.block) = min σ.low ad.block; omega)
              | opn cs e s c =>
                simp only
                cases guard' (Nat.ble (ad.off + y.cells.toList.length) cs.length) with
                | none => exact ⟨none, rfl, rfl, fun _ h => by cases h⟩
                | some u =>
                  refine ⟨some (undef, σ.set ad.block _, (σ.lw σ.next).set ad.block _), rfl, rfl, fun x hx => ?_⟩
                  injection hx with hx
                  subst hx
                  show St.lw (σ.set ad.block _) (min σ.low (min σ.next ad.block)) = _
                  exact lw_self (by show min σ.low (min σ.next ad.block) = min σ.low ad.block; omega)
section
variable {cx : Ctx} {all : Array Oper} {g : Fm} {σ : St} {d : Tmp} {ty : TypeId} {pos : String} {after : Array Edge} {r : List Oper} {K : Fm → St → Prop} {x y z : Operand} {t u : TypeId} {m : Nat} {ps : Array (Nat × Operand)} {as : Array Operand} {ts : Array TypeId} {lo hi mx : Option Operand}
theorem W2_al (hl : σ.low ≤ σ.next) : W2 cx all (⟨some d, (.alloc t), ty, pos, after, none⟩ :: r) g σ K = Wop cx ty (.alloc t) g σ (blk (fun v σ' => W2 cx all r (setF g d v) σ' K) (tag _)) :=
  W2_of rfl ((alParts cx t).map fun x => (.pointer (some ⟨σ.next, 0, none⟩), σ.add (.row x t), (σ.lw σ.next).add (.row x t))) (by
    show opAlloc cx (σ.lw σ.next) t = _
    rw [al_eq, Option.map_map]; rfl) (by
    show opAlloc cx σ t = _
    rw [al_eq, Option.map_map]; rfl) fun x hx => by
    obtain ⟨y, _, rfl⟩ := Option.map_eq_some_iff.1 hx
    exact ⟨lw_add_low hl, .inl ⟨_, _, rfl⟩⟩
theorem W2_box (hl : σ.low ≤ σ.next) : W2 cx all (⟨some d, (.box t x), ty, pos, after, none⟩ :: r) g σ K = Wop cx ty (.box t x) g σ (blk (fun v σ' => W2 cx all r (setF g d v) σ' K) (tag _)) :=
  W2_of rfl (some (.pointer (some ⟨σ.next, 0, none⟩), σ.add (.row (ev g x).cells.toList t), (σ.lw σ.next).add (.row (ev g x).cells.toList t))) rfl rfl fun x hx => by
    injection hx with hx
    subst hx
    exact ⟨lw_add_low hl, .inl ⟨_, _, rfl⟩⟩
theorem W2_mk (hl : σ.low ≤ σ.next) : W2 cx all (⟨some d, (.makeSlice t x y), ty, pos, after, none⟩ :: r) g σ K = Wop cx ty (.makeSlice t x y) g σ (blk (fun v σ' => W2 cx all r (setF g d v) σ' K) (tag _)) :=
  W2_of rfl ((mkParts cx t (ev g x) (ev g y)).map fun x => (.slice (some ⟨σ.next, 0, none⟩) x.1 x.2.1, σ.add (.row x.2.2.2 x.2.2.1), (σ.lw σ.next).add (.row x.2.2.2 x.2.2.1))) (by
    show opMakeSlice cx (σ.lw σ.next) t (ev g x) (ev g y) = _
    rw [mk_eq, Option.map_map]; rfl) (by
    show opMakeSlice cx σ t (ev g x) (ev g y) = _
    rw [mk_eq, Option.map_map]; rfl) fun x hx => by
    obtain ⟨y, _, rfl⟩ := Option.map_eq_some_iff.1 hx
    exact ⟨lw_add_low hl, .inl ⟨_, _, rfl⟩⟩
theorem W2_bs (hl : σ.low ≤ σ.next) : W2 cx all (⟨some d, (.buildSlice t m ps), ty, pos, after, none⟩ :: r) g σ K = Wop cx ty (.buildSlice t m ps) g σ (blk (fun v σ' => W2 cx all r (setF g d v) σ' K) (tag _)) :=
  W2_of rfl ((bsParts cx t m (ps.toList.map fun p => (p.1, ev g p.2))).map fun x => (.slice (some ⟨σ.next, 0, none⟩) m m, σ.add (.row x.2 x.1), (σ.lw σ.next).add (.row x.2 x.1))) (by
    show opBuildSlice cx (σ.lw σ.next) t m _ = _
    rw [bs_eq, Option.map_map]; rfl) (by
    show opBuildSlice cx σ t m _ = _
    rw [bs_eq, Option.map_map]; rfl) fun x hx => by
    obtain ⟨y, _, rfl⟩ := Option.map_eq_some_iff.1 hx
    exact ⟨lw_add_low hl, .inl ⟨_, _, rfl⟩⟩
theorem W2_st (hl : σ.low ≤ σ.next) : W2 cx all (⟨none, (.store t x y), ty, pos, after, none⟩ :: r) g σ K = Wop cx ty (.store t x y) g σ (blk (fun _ σ' => W2 cx all r g σ' K) (tag _)) := by
  obtain ⟨m, h1, h2, h3⟩ := store_lw (cx := cx) (t := t) (x := ev g x) (y := ev g y) hl
  exact W2_of rfl m h1 h2 fun x hx => ⟨h3 x hx, trivial⟩
end
theorem Ext'.of_lw {σ σ' : St} (h : Ext' (σ.lw σ.next) σ') : σ.next ≤ σ'.low ∧ σ.next ≤ σ'.next ∧ σ'.low ≤ σ'.next := by
  have h1 := h.low
  have h2 := h.next
  have h3 := h.le (Nat.le_refl _)
  change min σ.next σ.next ≤ _ at h1
  change σ.next ≤ _ at h2
  exact ⟨by omega, h2, h3⟩
theorem Ext'.drew {σ0 σ σ' : St} (h : Ext' σ0 σ) (hl : σ.low ≤ σ.next) (e : Ext' (σ.lw σ.next) σ') : Ext' σ0 (σ'.lw (min σ.low σ'.low)) := by
  obtain ⟨l1, n1, m1⟩ := e.of_lw
  have h3 := h.low
  have h4 := h.next
  have ht : Ext' σ0 σ' := (h.trans Ext'.to_lw).trans e
  exact ht.lw (by omega) (by omega)
theorem add_low {σ : St} {o : SObj} : (σ.add o).low = σ.low := Eq.trans rfl rfl
theorem set_low {σ : St} {i : Nat} {o : SObj} : (σ.set i o).low = min σ.low i := Eq.trans rfl rfl
attribute [go_sem ↓] W2_nil W2_gd cls_call W2_call W2_callN W2_al W2_box W2_mk W2_bs W2_st W2_move W2_assign W2_pick W2_bin W2_un W2_conv W2_fa W2_fd W2_ia W2_bd W2_ext W2_ld W2_len
section
variable {cx : Ctx} {all : Array Oper} {g : Fm} {σ : St} {r : List Oper} {K : Fm → St → Prop} {K' : Value → St → Prop} {d : Tmp} {x : Operand} {as : Array Operand} {ts : Array TypeId} {f : FuncId} {args : List Value} {R : Value → St → Prop} {P : Value → Prop}
theorem use (hl : σ.low ≤ σ.next) (h : C cx f args σ fun v σ' => R v σ' ∧ Ext' σ σ') (k : ∀ v σ', R v σ' → Ext' σ σ' → σ'.low ≤ σ'.next → K' v σ') : C cx f args σ K' :=
  h.mono fun v σ' ⟨h1, h2⟩ => k v σ' h1 h2 (h2.le hl)
theorem useD (hl : σ.low ≤ σ.next) (h : C cx f args (σ.lw σ.next) fun v σ' => R v σ' ∧ Ext' (σ.lw σ.next) σ') (k : ∀ v σ', R v σ' → Ext' σ σ' → σ'.low ≤ σ'.next → W2 cx all r (setF g d v) σ' K) (hR : ∀ v σ a, R v σ → R v (σ.lw a))
    {t : Tag _} : C cx f args (σ.lw σ.next) (blk (fun v σ' => both (okF all (all.toList.length - (r.length + 1)) (.call { callee := .value x, args := as, argTypes := ts }) (fpE (ev g) σ.next σ'.low (.call { callee := .value x, args := as, argTypes := ts }))) (W2 cx all r (setF g d v) (σ'.lw (min σ.low σ'.low)) K)) t) :=
  h.mono fun v σ' ⟨h1, h2⟩ => by
    have h3 := (Ext'.refl σ).drew hl h2
    refine ⟨?_, k v _ (hR v σ' _ h1) h3 (h3.le hl)⟩
    exact .inl (of_eq_true (cls_call h2.of_lw.1))
theorem useW {Kq : Value → St → Prop} (h : C cx f args (σ.lw σ.next) Kq) (hs : strong all (all.toList.length - (r.length + 1)) = true) (k : ∀ v σ', Kq v σ' → W2 cx all r (setF g d v) (σ'.lw (min σ.low σ'.low)) K)
    {t : Tag _} : C cx f args (σ.lw σ.next) (blk (fun v σ' => both (okF all (all.toList.length - (r.length + 1)) (.call { callee := .value x, args := as, argTypes := ts }) (fpE (ev g) σ.next σ'.low (.call { callee := .value x, args := as, argTypes := ts }))) (W2 cx all r (setF g d v) (σ'.lw (min σ.low σ'.low)) K)) t) :=
  h.mono fun v σ' h1 => ⟨.inr ⟨rfl, hs⟩, k v σ' h1⟩
theorem usep (h : C cx f args σ fun v σ' => P v ∧ σ' = σ) (k : ∀ v, P v → K' v σ) : C cx f args σ K' :=
  h.mono fun v σ' ⟨h1, h2⟩ => by subst h2; exact k v h1
theorem usepD (hl : σ.low ≤ σ.next) (h : C cx f args (σ.lw σ.next) fun v σ' => P v ∧ σ' = σ.lw σ.next) (k : ∀ v, P v → W2 cx all r (setF g d v) σ K)
    {t : Tag _} : C cx f args (σ.lw σ.next) (blk (fun v σ' => both (okF all (all.toList.length - (r.length + 1)) (.call { callee := .value x, args := as, argTypes := ts }) (fpE (ev g) σ.next σ'.low (.call { callee := .value x, args := as, argTypes := ts }))) (W2 cx all r (setF g d v) (σ'.lw (min σ.low σ'.low)) K)) t) :=
  h.mono fun v σ' ⟨h1, h2⟩ => by
    subst h2
    refine ⟨?_, ?_⟩
    · exact .inl (of_eq_true (cls_call (by exact Nat.le_refl _)))
    · rw [lw_lw, lw_self (by show min σ.low σ.next = σ.low; omega)]
      exact k v h1
end
structure Mod (p : Nat) (σ σ' : St) : Prop where
  next : σ.next ≤ σ'.next
  nextC : σ.nextC ≤ σ'.nextC
  low : min (min σ.low p) σ.next ≤ σ'.low
  mem : ∀ i, i < σ.next → i ≠ p → σ'.mem.get i = σ.mem.get i
  caps : ∀ k, k < σ.nextC → σ'.caps.get k = σ.caps.get k
  le : σ.low ≤ σ.next → σ'.low ≤ σ'.next
section
variable {cx : Ctx} {σ0 σ σ' σ'' : St} {p : Nat}
theorem Mod.refl : Mod p σ σ := ⟨Nat.le_refl _, Nat.le_refl _, by omega, fun _ _ _ => rfl, fun _ _ => rfl, id⟩
theorem Mod.ext (h : Mod p σ σ') (e : Ext' σ0 σ) (hp : σ0.next ≤ p) : Ext' σ0 σ' := by
  obtain ⟨h1, h2, h3, h4, h5, h6⟩ := h
  obtain ⟨k1, k2, k3, k4, k5, k6⟩ := e
  exact ⟨by omega, by omega, by omega, fun i hi => (h4 i (by omega) (by omega)).trans (k4 i hi), fun i hi => (h5 i (by omega)).trans (k5 i hi), fun h => h6 (k6 h)⟩
theorem Mod.set (h : Mod p σ σ') (o : SObj) : Mod p σ (σ'.set p o) :=
  ⟨h.next, h.nextC, by
    have := h.low
    show _ ≤ min σ'.low p
    omega, fun i hi hn => by
    show (σ'.mem.set p _).get i = _
    rw [Tr.get_set, if_neg hn]
    exact h.mem i hi hn, h.caps, fun hl => by
    have := h.le hl
    show min σ'.low p ≤ σ'.next
    omega⟩
theorem Mod.of_ext (h : Mod p σ σ') (e : Ext' σ' σ'') (hp : p < σ.next) : Mod p σ σ'' := by
  obtain ⟨h1, h2, h3, h4, h5, h6⟩ := h
  obtain ⟨k1, k2, k3, k4, k5, k6⟩ := e
  exact ⟨by omega, by omega, by omega, fun i hi hn => (k4 i (by omega)).trans (h4 i hi hn), fun i hi => (k5 i (by omega)).trans (h5 i hi), fun h => k6 (h6 h)⟩
theorem Mod.look (h : Mod p σ σ') {i : Nat} (hi : i < σ.next) (hn : i ≠ p) : look cx σ' i = Sym.look cx σ i := by
  unfold Sym.look
  rw [h.mem i hi hn]
theorem back_mod {v : Value} (h : Mod p σ.fresh σ') (hp : σ'.low ≤ p) (hpn : p < σ.next) : Mod p σ (back σ v σ') ∧ back σ v σ' = σ'.lw (min σ.low σ'.low) := by
  have hb : Nat.ble σ.next σ'.low = false := by
    cases hb : Nat.ble σ.next σ'.low
    · rfl
    · have := Nat.le_of_ble_eq_true hb; omega
  have e : back σ v σ' = σ'.lw (min σ.low σ'.low) := by
    unfold back
    rw [hb, Bool.and_false]
    rfl
  refine ⟨?_, e⟩
  rw [e]
  obtain ⟨h1, h2, h3, h4, h5, h6⟩ := h
  change min (min σ.next p) σ.next ≤ _ at h3
  change σ.next ≤ _ at h1
  exact ⟨h1, h2, by show _ ≤ min σ.low σ'.low; omega, h4, h5, fun _ => by show min σ.low σ'.low ≤ σ'.next; omega⟩
theorem Mod.lw {a : Nat} (h : Mod p σ σ') (ha : min (min σ.low p) σ.next ≤ a) (hb : a ≤ σ'.next) : Mod p σ (σ'.lw a) := ⟨h.next, h.nextC, ha, h.mem, h.caps, fun _ => hb⟩
theorem Mod.drew (h : Mod p (σ.lw σ.next) σ') (hl : σ.low ≤ σ.next) (hp : p < σ.next) : Mod p σ (σ'.lw (min σ.low σ'.low)) := by
  obtain ⟨h1, h2, h3, h4, h5, h6⟩ := h
  change min (min σ.next p) σ.next ≤ _ at h3
  change σ.next ≤ _ at h1
  exact ⟨h1, h2, by show _ ≤ min σ.low σ'.low; omega, h4, h5, fun _ => by show min σ.low σ'.low ≤ σ'.next; omega⟩
end
section
variable {cx : Ctx} {all : Array Oper} {g : Fm} {σ σ' : St} {i : Nat} {fs : List (Nat × FP)} {r : List Oper} {K : Fm → St → Prop} {d : Tmp} {ty : TypeId} {pos : String} {after : Array Edge} {t : TypeId} {x y : Operand} {k p off : Nat} {v w : Value}
theorem Wd_ld (hl : σ.low ≤ σ.next) (hx : ev g x = .pointer (some ⟨p, off, none⟩)) (hv : loadVar cx σ t ⟨p, off, none⟩ = some v) (hf : fits all i (.part [p] [] false) fs = true)
    (h : Wd cx all (i + 1) ((i, .part [p] [] false) :: fs) r (setF g d v) σ K) : Wd cx all i fs (⟨some d, .load t x, ty, pos, after, none⟩ :: r) g σ K := by
  have hs : symOpE cx (ev g) (σ.lw σ.next) (.load t x) ty = some (.val v (σ.lw σ.next)) := by
    obtain ⟨o, h1, h2⟩ := loadVar_eq.1 hv
    have h3 : loadVar cx (σ.lw σ.next) t ⟨p, off, none⟩ = some v := loadVar_eq.2 ⟨o, h1, h2⟩
    show opLoad cx (σ.lw σ.next) t (ev g x) = _
    rw [hx]
    unfold opLoad
    simp only [addrOf, Option.bind_eq_bind, Option.bind_some, h3]
  have hfp : fpE (ev g) σ.next (σ.lw σ.next).low (.load t x) = .part [p] [] false := by
    show FP.part (blockOf (ev g x)) [] false = _
    rw [hx]
    rfl
  refine .inl ⟨v, _, hs, ?_⟩
  dsimp only
  rw [hfp]
  refine ⟨hf, ?_⟩
  have e : ({ σ.lw σ.next with low := min σ.low (σ.lw σ.next).low } : St) = σ := lw_self (σ := σ) (by show min σ.low σ.next = σ.low; omega)
  rw [e]
  exact h
theorem Wd_st (hl : σ.low ≤ σ.next) (hx : ev g x = .pointer (some ⟨p, off, none⟩)) (hs : Wst cx σ t (ev g x) (ev g y) fun _ s => s = σ') (hf : fits all i (.part [] [p] false) fs = true)
    (h : Wd cx all (i + 1) ((i, .part [] [p] false) :: fs) r g σ' K) : Wd cx all i fs (⟨none, .store t x y, ty, pos, after, none⟩ :: r) g σ K := by
  obtain ⟨m, h1, h2, h3⟩ := store_lw (cx := cx) (t := t) (x := ev g x) (y := ev g y) hl
  obtain ⟨u, s, h4, rfl⟩ := hs
  cases m with
  | none => rw [h2] at h4; cases h4
  | some m =>
    have h5 := h3 m rfl
    rw [h2] at h4
    simp only [Option.map_some, Option.some.injEq, Res.val.injEq] at h4
    have hfp : fpE (ev g) σ.next m.2.2.low (.store t x y) = .part [] [p] false := by
      show FP.part [] (blockOf (ev g x)) false = _
      rw [hx]
      rfl
    refine .inl ⟨m.1, m.2.2, h1, ?_⟩
    dsimp only
    rw [hfp]
    refine ⟨hf, ?_⟩
    change Wd cx all (i + 1) _ r g (m.2.2.lw (min σ.low m.2.2.low)) K
    rw [h5, h4.2]
    exact h
theorem Wd_fa (hl : σ.low ≤ σ.next) (hv : Wfa cx t k (ev g x) fun u => u = v) (h : Wd cx all (i + 1) fs r (setF g d v) σ K) (hf : fits all i (.part [] [] false) fs = true) : Wd cx all i fs (⟨some d, .fieldAddr t x k, ty, pos, after, none⟩ :: r) g σ K := by
  obtain ⟨u, h1, rfl⟩ := hv
  have hs : symOpE cx (ev g) (σ.lw σ.next) (.fieldAddr t x k) ty = some (.val u (σ.lw σ.next)) := by
    show Sym.val (σ.lw σ.next) (opFieldAddr cx t (ev g x) k) = _
    rw [h1]
    rfl
  refine .inl ⟨u, _, hs, hf, ?_⟩
  have e : ({ σ.lw σ.next with low := min σ.low (σ.lw σ.next).low } : St) = σ := lw_self (σ := σ) (by show min σ.low σ.next = σ.low; omega)
  rw [e]
  exact h
theorem Wd_as (hl : σ.low ≤ σ.next) (h : Wd cx all (i + 1) fs r (setF g d (ev g x)) σ K) (hf : fits all i (.part [] [] false) fs = true) : Wd cx all i fs (⟨some d, .assign x, ty, pos, after, none⟩ :: r) g σ K := by
  refine .inl ⟨ev g x, σ.lw σ.next, rfl, hf, ?_⟩
  have e : ({ σ.lw σ.next with low := min σ.low (σ.lw σ.next).low } : St) = σ := lw_self (σ := σ) (by show min σ.low σ.next = σ.low; omega)
  rw [e]
  exact h
theorem beq_ne {a b : Nat} (h : a ≠ b) : Nat.beq a b = false := by
  cases hb : Nat.beq a b
  · rfl
  · exact absurd (Nat.eq_of_beq_eq_true hb) h
theorem fits_nil : fits all i (.part [] [] false) fs = true := by
  induction fs with
  | nil => rfl
  | cons q r ih =>
    obtain ⟨j, q⟩ := q
    show ((!((FP.part [] [] false).conflict q) || _) && fits all i (.part [] [] false) r) = true
    rw [zero_conflict (.inl rfl), ih]
    rfl
theorem fits_rr {j q : Nat} (h : fits all i (.part [p] [] false) fs = true) : fits all i (.part [p] [] false) ((j, .part [q] [] false) :: fs) = true := by
  show ((!(false || false || false) || _) && fits all i (.part [p] [] false) fs) = true
  rw [h]
  rfl
theorem fits_wr {j q : Nat} (hpq : p ≠ q) (h : fits all i (.part [] [p] false) fs = true) : fits all i (.part [] [p] false) ((j, .part [q] [] false) :: fs) = true := by
  show ((!((((Nat.beq p q || false) || false) || (false || false)) || false) || _) && fits all i (.part [] [p] false) fs) = true
  rw [beq_ne hpq, h]
  rfl
theorem fits_ww {j q : Nat} (hpq : p ≠ q) (h : fits all i (.part [] [p] false) fs = true) : fits all i (.part [] [p] false) ((j, .part [] [q] false) :: fs) = true := by
  show ((!(((false || false) || ((Nat.beq p q || false) || false)) || false) || _) && fits all i (.part [] [p] false) fs) = true
  rw [beq_ne hpq, h]
  rfl
theorem fits_b {fp q : FP} {j : Nat} (hb : ((Region.before all).getD i 0).testBit j = true) (h : fits all i fp fs = true) : fits all i fp ((j, q) :: fs) = true := by
  show ((!(fp.conflict q) || ((Region.before all).getD i 0).testBit j) && fits all i fp fs) = true
  rw [hb, h, Bool.or_true]
  rfl
theorem fits_nil' {fp : FP} : fits all i fp [] = true := rfl
end
attribute [go_sem] lw_lw lw_next lw_low fresh_low look_lw min_min' cls_move cls_assign cls_pick cls_bin cls_un cls_conv cls_fa cls_fd cls_ia cls_bd cls_ext cls_sl cls_len cls_ld cls_al cls_box cls_mk cls_bs cls_st both_true Nat.min_self
end
end Go.Sym
