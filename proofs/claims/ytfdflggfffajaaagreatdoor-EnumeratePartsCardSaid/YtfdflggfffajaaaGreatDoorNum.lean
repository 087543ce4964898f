/- Numbers as digits; the estimate of a quotient digit; fractions in lowest terms. -/
set_option linter.unusedVariables false
set_option linter.unusedSimpArgs false
set_option linter.unusedSectionVars false
namespace Go.Num
abbrev B : Nat := 4294967296
def val : List Nat → Nat
  | [] => 0
  | x :: r => x + B * val r
theorem val_append : ∀ (a b : List Nat), val (a ++ b) = val a + B ^ a.length * val b
  | [], b => by simp [val]
  | x :: r, b => by
    rw [List.cons_append, val, val, val_append r b, List.length_cons, Nat.pow_succ, Nat.mul_add, ← Nat.mul_assoc, Nat.mul_comm (B ^ r.length) B, Nat.add_assoc]
theorem val_lt : ∀ {l : List Nat}, (∀ x ∈ l, x < B) → val l < B ^ l.length
  | [], _ => by simp [val]
  | x :: r, h => by
    have h1 := h x List.mem_cons_self
    have h2 := val_lt (l := r) fun y hy => h y (List.mem_cons_of_mem _ hy)
    rw [val, List.length_cons, Nat.pow_succ]
    have h3 : B * (val r + 1) ≤ B * B ^ r.length := Nat.mul_le_mul_left B h2
    have h4 : B ^ r.length * B = B * B ^ r.length := Nat.mul_comm _ _
    rw [Nat.mul_add] at h3
    omega
theorem val_take_drop (l : List Nat) (m : Nat) (h : m ≤ l.length) : val l = val (l.take m) + B ^ m * val (l.drop m) := by
  have := val_append (l.take m) (l.drop m)
  rw [List.take_append_drop, List.length_take, Nat.min_eq_left h] at this
  exact this
theorem val_zeros : ∀ n : Nat, val (List.replicate n 0) = 0
  | 0 => rfl
  | n + 1 => by rw [List.replicate_succ, val, val_zeros n, Nat.mul_zero]
theorem val_take_succ (l : List Nat) (m : Nat) (x : Nat) (h : l[m]? = some x) : val (l.take (m + 1)) = val (l.take m) + B ^ m * x := by
  obtain ⟨hm, hx⟩ := List.getElem?_eq_some_iff.1 h
  rw [List.take_succ_eq_append_getElem hm, val_append, List.length_take, Nat.min_eq_left (Nat.le_of_lt hm), hx]
  simp [val]
theorem val_snoc (l : List Nat) (x : Nat) : val (l ++ [x]) = val l + B ^ l.length * x := by rw [val_append]; simp [val]
def nz : List Nat → Nat
  | [] => 0
  | x :: r => if nz r = 0 then (if x = 0 then 0 else 1) else nz r + 1
theorem nz_le : ∀ l : List Nat, nz l ≤ l.length
  | [] => Nat.le_refl 0
  | x :: r => by
    have := nz_le r
    simp only [nz, List.length_cons]
    split
    · split <;> omega
    · omega
theorem nz_last : ∀ (l : List Nat) (j : Nat), nz l ≤ j + 1 → l[j]? = some 0 → nz l ≤ j
  | [], j, h, hx => by simp at hx
  | x :: r, 0, h, hx => by
    simp only [List.getElem?_cons_zero, Option.some.injEq] at hx
    simp only [nz] at h ⊢
    split at h <;> simp_all
  | x :: r, j + 1, h, hx => by
    rw [List.getElem?_cons_succ] at hx
    have ih := nz_last r j
    simp only [nz] at h ⊢
    split
    · split <;> omega
    · rw [if_neg (by assumption)] at h
      have := ih (by omega) hx
      omega
theorem nz_eq : ∀ (l : List Nat) (j x : Nat), nz l ≤ j + 1 → l[j]? = some x → x ≠ 0 → nz l = j + 1
  | [], j, x, h, hx, _ => by simp at hx
  | y :: r, 0, x, h, hx, h0 => by
    simp only [List.getElem?_cons_zero, Option.some.injEq] at hx
    subst hx
    simp only [nz] at h ⊢
    split at h
    · rename_i h1
      rw [if_pos h1, if_neg h0]
    · omega
  | y :: r, j + 1, x, h, hx, h0 => by
    rw [List.getElem?_cons_succ] at hx
    have ih := nz_eq r j x
    simp only [nz] at h ⊢
    have h2 : nz r ≤ j + 1 := by
      split at h <;> omega
    have := ih h2 hx h0
    rw [if_neg (by omega), this]
def trimmed (l : List Nat) : List Nat := l.take (nz l)
theorem trimmed_length (l : List Nat) : (trimmed l).length = nz l := by
  unfold trimmed
  rw [List.length_take, Nat.min_eq_left (nz_le l)]
theorem nz_zero_val : ∀ l : List Nat, nz l = 0 → val l = 0
  | [], _ => rfl
  | x :: r, h => by
    simp only [nz] at h
    split at h
    · rename_i h1
      split at h
      · rename_i h2
        rw [val, h2, nz_zero_val r h1, Nat.mul_zero]
      · omega
    · omega
theorem val_trimmed : ∀ l : List Nat, val (trimmed l) = val l
  | [] => rfl
  | x :: r => by
    have ih := val_trimmed r
    unfold trimmed at ih ⊢
    simp only [nz]
    split
    · rename_i h1
      have h2 := nz_zero_val r h1
      split
      · rename_i h3
        simp [val, h2, h3]
      · simp [val, h2]
    · rw [List.take_succ_cons, val, val, ih]
def digits (n : Nat) : List Nat := if h : n = 0 then [] else n % B :: digits (n / B)
termination_by n
decreasing_by exact Nat.div_lt_self (Nat.pos_of_ne_zero h) (by decide)
theorem digits_zero : digits 0 = [] := by unfold digits; rfl
theorem digits_pos {n : Nat} (h : n ≠ 0) : digits n = n % B :: digits (n / B) := by
  rw [digits.eq_def, dif_neg h]
theorem val_digits (n : Nat) : val (digits n) = n := by
  induction n using Nat.strongRecOn with
  | _ n ih =>
    by_cases h : n = 0
    · subst h; rw [digits_zero]; rfl
    · rw [digits_pos h, val, ih (n / B) (Nat.div_lt_self (Nat.pos_of_ne_zero h) (by decide))]
      exact Nat.mod_add_div n B
theorem digits_lt (n : Nat) : ∀ x ∈ digits n, x < B := by
  induction n using Nat.strongRecOn with
  | _ n ih =>
    by_cases h : n = 0
    · subst h; rw [digits_zero]; intro x hx; cases hx
    · rw [digits_pos h]
      intro x hx
      rcases List.mem_cons.1 hx with rfl | hx
      · exact Nat.mod_lt _ (by decide)
      · exact ih (n / B) (Nat.div_lt_self (Nat.pos_of_ne_zero h) (by decide)) x hx
theorem digits_val : ∀ l : List Nat, (∀ x ∈ l, x < B) → digits (val l) = trimmed l
  | [], _ => by rw [val, digits_zero]; rfl
  | x :: r, h => by
    have h1 := h x List.mem_cons_self
    have ih := digits_val r fun y hy => h y (List.mem_cons_of_mem _ hy)
    have hm : (x + B * val r) % B = x := by
      rw [Nat.add_mul_mod_self_left]
      exact Nat.mod_eq_of_lt h1
    have hd : (x + B * val r) / B = val r := by
      rw [Nat.add_mul_div_left _ _ (by decide), Nat.div_eq_of_lt h1, Nat.zero_add]
    by_cases h0 : x + B * val r = 0
    · rw [val, h0, digits_zero]
      have hx : x = 0 := by omega
      have hv : val r = 0 := by
        have h3 : B * val r = 0 := by omega
        exact (Nat.mul_eq_zero.1 h3).resolve_left (by decide)
      have hr : digits (val r) = [] := by rw [hv, digits_zero]
      rw [ih] at hr
      have hn : nz r = 0 := by
        have := trimmed_length r
        rw [hr] at this
        simpa using this.symm
      unfold trimmed
      simp [nz, hn, hx]
    · rw [val, digits_pos h0, hm, hd, ih]
      unfold trimmed
      simp only [nz]
      split
      · rename_i h1
        rw [h1]
        have hv := nz_zero_val r h1
        rw [if_neg (by intro e; apply h0; rw [e, hv, Nat.mul_zero])]
        simp
      · rw [List.take_succ_cons]
theorem digits_length {n k : Nat} (h : n < B ^ k) : (digits n).length ≤ k := by
  induction k generalizing n with
  | zero =>
    have : n = 0 := by simpa using h
    subst this
    rw [digits_zero]; exact Nat.le_refl 0
  | succ k ih =>
    by_cases h0 : n = 0
    · subst h0; rw [digits_zero]; exact Nat.zero_le _
    · rw [digits_pos h0, List.length_cons]
      have : n / B < B ^ k := by
        rw [Nat.div_lt_iff_lt_mul (by decide), ← Nat.pow_succ]
        exact h
      have := ih this
      omega
theorem trimmed_digits (n : Nat) : trimmed (digits n) = digits n := by
  rw [← digits_val _ (digits_lt n), val_digits]
theorem nz_digits (n : Nat) : nz (digits n) = (digits n).length := by
  rw [← trimmed_length, trimmed_digits]
theorem digits_inj {m n : Nat} (h : digits m = digits n) : m = n := by rw [← val_digits m, h, val_digits]
def sval (neg : Bool) (l : List Nat) : Int := if neg then -(val l : Int) else (val l : Int)
end Go.Num
namespace Go.Num
theorem B_pos : 0 < B := by decide
theorem pow_pos (k : Nat) : 0 < B ^ k := Nat.pow_pos B_pos
theorem val_set : ∀ (l : List Nat) (j y x : Nat), l[j]? = some x → val (l.set j y) + B ^ j * x = val l + B ^ j * y
  | [], j, y, x, h => by simp at h
  | z :: r, 0, y, x, h => by
    simp only [List.getElem?_cons_zero, Option.some.injEq] at h
    subst h
    simp only [List.set_cons_zero, val, Nat.pow_zero, Nat.one_mul]
    omega
  | z :: r, j + 1, y, x, h => by
    rw [List.getElem?_cons_succ] at h
    have ih := val_set r j y x h
    simp only [List.set_cons_succ, val, Nat.pow_succ', Nat.mul_assoc]
    have e : B * (val (r.set j y) + B ^ j * x) = B * (val r + B ^ j * y) := by rw [ih]
    rw [Nat.mul_add, Nat.mul_add] at e
    omega
theorem val_take_getD (l : List Nat) (i : Nat) : val (l.take (i + 1)) = val (l.take i) + B ^ i * l.getD i 0 := by
  by_cases h : i < l.length
  · have hx : l[i]? = some l[i] := List.getElem?_eq_getElem h
    rw [val_take_succ l i _ hx, List.getD_eq_getElem?_getD, hx]
    rfl
  · rw [List.take_of_length_le (by omega), List.take_of_length_le (by omega), List.getD_eq_getElem?_getD, List.getElem?_eq_none (by omega)]
    simp
theorem val_cons (x : Nat) (r : List Nat) : val (x :: r) = x + B * val r := rfl
theorem val_nil : val [] = 0 := rfl
theorem val_at (l : List Nat) (j x : Nat) (h : l[j]? = some x) : val l = val (l.take j) + B ^ j * (x + B * val (l.drop (j + 1))) := by
  obtain ⟨hj, hx⟩ := List.getElem?_eq_some_iff.1 h
  rw [val_take_drop l j (by omega), List.drop_eq_getElem_cons hj, hx, val_cons]
theorem lt_take {l : List Nat} {k : Nat} (h : ∀ x ∈ l, x < B) : ∀ x ∈ l.take k, x < B := fun x hx => h x (List.mem_of_mem_take hx)
theorem lt_drop {l : List Nat} {k : Nat} (h : ∀ x ∈ l, x < B) : ∀ x ∈ l.drop k, x < B := fun x hx => h x (List.mem_of_mem_drop hx)
theorem lt_set {l : List Nat} {k y : Nat} (h : ∀ x ∈ l, x < B) (hy : y < B) : ∀ x ∈ l.set k y, x < B := fun x hx => by
  rcases List.mem_or_eq_of_mem_set hx with h1 | h1
  · exact h x h1
  · omega
theorem lt_get {l : List Nat} {k x : Nat} (h : ∀ x ∈ l, x < B) (hx : l[k]? = some x) : x < B := h x (List.mem_of_getElem? hx)
theorem lt_getD {l : List Nat} {k : Nat} (h : ∀ x ∈ l, x < B) : l.getD k 0 < B := by
  rw [List.getD_eq_getElem?_getD]
  cases hx : l[k]? with
  | none => exact B_pos
  | some x => exact lt_get h hx
theorem lt_append {a b : List Nat} (ha : ∀ x ∈ a, x < B) (hb : ∀ x ∈ b, x < B) : ∀ x ∈ a ++ b, x < B := fun x hx => by
  rcases List.mem_append.1 hx with h | h
  · exact ha x h
  · exact hb x h
theorem digits_length_le {n k : Nat} : (digits n).length ≤ k ↔ n < B ^ k := by
  refine ⟨fun h => ?_, digits_length⟩
  have h1 := val_lt (digits_lt n)
  rw [val_digits] at h1
  exact Nat.lt_of_lt_of_le h1 (Nat.pow_le_pow_right B_pos h)
theorem digits_shorter {x y : Nat} (h : (digits x).length < (digits y).length) : x < y := by
  have h1 : x < B ^ (digits x).length := digits_length_le.1 (Nat.le_refl _)
  have h2 : ¬ y < B ^ (digits x).length := fun e => by
    have := digits_length_le.2 e
    omega
  omega
theorem val_lt_at {a b : List Nat} {j x y : Nat} (ha : ∀ x ∈ a, x < B) (hx : a[j]? = some x) (hy : b[j]? = some y) (hd : a.drop (j + 1) = b.drop (j + 1)) (h : x < y) : val a < val b := by
  rw [val_at a j x hx, val_at b j y hy, hd]
  have h1 := val_lt (lt_take (k := j) ha)
  have hj : (a.take j).length ≤ j := by rw [List.length_take]; omega
  have h2 : B ^ (a.take j).length ≤ B ^ j := Nat.pow_le_pow_right B_pos hj
  have h3 : B ^ j * (x + B * val (b.drop (j + 1)) + 1) ≤ B ^ j * (y + B * val (b.drop (j + 1))) := Nat.mul_le_mul_left _ (by omega)
  rw [Nat.mul_add _ _ 1, Nat.mul_one] at h3
  omega
def Sz (z : Int) (k : Nat) : Prop := z.natAbs < B ^ k
theorem Sz.le {z : Int} {k m : Nat} (h : Sz z k) (hm : k ≤ m) : Sz z m := Nat.lt_of_lt_of_le h (Nat.pow_le_pow_right B_pos hm)
theorem Sz.len {z : Int} {k : Nat} (h : Sz z k) : (digits z.natAbs).length ≤ k := digits_length h
theorem Sz.mul {a b : Int} {j k : Nat} (ha : Sz a j) (hb : Sz b k) : Sz (a * b) (j + k) := by
  unfold Sz at *
  rw [Int.natAbs_mul, Nat.pow_add]
  exact Nat.mul_lt_mul_of_lt_of_lt ha hb
theorem Sz.neg {a : Int} {k : Nat} (h : Sz a k) : Sz (-a) k := by unfold Sz at *; rwa [Int.natAbs_neg]
theorem Sz.add {a b : Int} {k : Nat} (ha : Sz a k) (hb : Sz b k) : Sz (a + b) (k + 1) := by
  unfold Sz at *
  have h1 : (a + b).natAbs ≤ a.natAbs + b.natAbs := Int.natAbs_add_le a b
  have h2 : B ^ (k + 1) = B * B ^ k := Nat.pow_succ'
  have h3 := pow_pos k
  have h4 : 2 * B ^ k ≤ B * B ^ k := Nat.mul_le_mul_right _ (by decide)
  omega
theorem Sz.sub {a b : Int} {k : Nat} (ha : Sz a k) (hb : Sz b k) : Sz (a - b) (k + 1) := by
  rw [Int.sub_eq_add_neg]
  exact ha.add hb.neg
theorem sz_sval {neg : Bool} {l : List Nat} (h : ∀ x ∈ l, x < B) : Sz (sval neg l) l.length := by
  have := val_lt h
  unfold Sz sval
  cases neg <;> simp <;> exact this
theorem sval_natAbs (neg : Bool) (l : List Nat) : (sval neg l).natAbs = val l := by
  unfold sval
  cases neg <;> simp
theorem Sz.natAbs_le {a b : Int} {k : Nat} (h : Sz b k) (hl : a.natAbs ≤ b.natAbs) : Sz a k := Nat.lt_of_le_of_lt hl h
end Go.Num
namespace Go.Num
structure Kn (U v w v1 v2 n third : Nat) : Prop where
  w0 : 0 < w
  vl : (v1 * B + v2) * w ≤ v
  vh : v < (v1 * B + v2 + 1) * w
  ul : (n * B + third) * w ≤ U
  uh : U < (n * B + third + 1) * w
  b1 : B ≤ 2 * v1
  l2 : v2 < B
  l3 : third < B
  lt : U < B * v
variable {U v w v1 v2 n third q r : Nat}
theorem Kn.v0 (h : Kn U v w v1 v2 n third) : 0 < v := by
  have h1 := h.lt
  rcases Nat.eq_zero_or_pos v with e | e
  · subst e
    omega
  · exact e
theorem Kn.lt_B (h : Kn U v w v1 v2 n third) : U / v < B := (Nat.div_lt_iff_lt_mul h.v0).2 h.lt
theorem Kn.le (h : Kn U v w v1 v2 n third) (hq : q ≤ U / v) : q * (v1 * B + v2) ≤ n * B + third := by
  have h1 : q * v ≤ U := Nat.le_trans (Nat.mul_le_mul_right v hq) (Nat.div_mul_le_self U v)
  have h2 : q * ((v1 * B + v2) * w) ≤ q * v := Nat.mul_le_mul_left q h.vl
  rw [← Nat.mul_assoc] at h2
  have h3 : q * (v1 * B + v2) * w < (n * B + third + 1) * w := Nat.lt_of_le_of_lt (Nat.le_trans h2 h1) h.uh
  have := Nat.lt_of_mul_lt_mul_right h3
  omega
theorem Kn.start (h : Kn U v w v1 v2 n third) : U / v ≤ n / v1 := by
  have h1 := h.le (Nat.le_refl _)
  have hb := h.b1
  have h0 : 0 < v1 := by have : 0 < B := B_pos; omega
  rw [Nat.le_div_iff_mul_le h0]
  rw [Nat.mul_add, ← Nat.mul_assoc] at h1
  have h3 := h.l3
  have h4 : U / v * v1 * B < (n + 1) * B := by
    rw [Nat.add_mul]
    have : 0 ≤ U / v * v2 := Nat.zero_le _
    omega
  have := Nat.lt_of_mul_lt_mul_right h4
  omega
theorem Kn.test (h : Kn U v w v1 v2 n third) (hn : n = q * v1 + r) (ht : r * B + third < q * v2) : U / v < q := by
  rcases Nat.lt_or_ge (U / v) q with hq | hq
  · exact hq
  · have h1 := h.le hq
    rw [Nat.mul_add, ← Nat.mul_assoc] at h1
    subst hn
    rw [Nat.add_mul] at h1
    omega
theorem Kn.stop (h : Kn U v w v1 v2 n third) (hn : n = q * v1 + r) (hq : q < B) (ht : q * v2 ≤ r * B + third) : q ≤ U / v + 1 := by
  rcases Nat.eq_zero_or_pos q with e | e
  · subst e
    exact Nat.zero_le _
  · have h1 : q - 1 ≤ U / v := by
      rw [Nat.le_div_iff_mul_le h.v0]
      have hv : v ≤ (v1 * B + v2 + 1) * w := Nat.le_of_lt h.vh
      have h2 : (q - 1) * v ≤ (q - 1) * ((v1 * B + v2 + 1) * w) := Nat.mul_le_mul_left _ hv
      have hb := h.b1
      have h0 : B ≤ v1 * B := by
        have : 1 * B ≤ v1 * B := Nat.mul_le_mul_right B (by have : 0 < B := B_pos; omega)
        omega
      have h3 : (q - 1) * (v1 * B + v2 + 1) ≤ q * (v1 * B + v2) := by
        obtain ⟨p, rfl⟩ : ∃ p, q = p + 1 := ⟨q - 1, by omega⟩
        rw [Nat.add_sub_cancel, Nat.mul_add p, Nat.add_mul]
        omega
      have h4 : q * (v1 * B + v2) ≤ n * B + third := by
        subst hn
        rw [Nat.mul_add, Nat.add_mul, ← Nat.mul_assoc]
        omega
      calc (q - 1) * v ≤ (q - 1) * ((v1 * B + v2 + 1) * w) := h2
        _ = (q - 1) * (v1 * B + v2 + 1) * w := (Nat.mul_assoc _ _ _).symm
        _ ≤ (n * B + third) * w := Nat.mul_le_mul_right w (Nat.le_trans h3 h4)
        _ ≤ U := h.ul
    omega
theorem Kn.brk (h : Kn U v w v1 v2 n third) (hn : n = q * v1 + r) (hr : B ≤ r) : q < B := by
  have h1 : n * B * w < B * ((v1 * B + v2 + 1) * w) := by
    have h2 : n * B * w ≤ (n * B + third) * w := Nat.mul_le_mul_right w (Nat.le_add_right _ _)
    have h3 : B * v < B * ((v1 * B + v2 + 1) * w) := Nat.mul_lt_mul_of_pos_left h.vh B_pos
    exact Nat.lt_of_le_of_lt (Nat.le_trans h2 h.ul) (Nat.lt_trans h.lt h3)
  have h2 : n * B < (v1 * B + v2 + 1) * B := by
    have e : B * ((v1 * B + v2 + 1) * w) = (v1 * B + v2 + 1) * B * w := by
      rw [← Nat.mul_assoc, Nat.mul_comm B]
    rw [e] at h1
    exact Nat.lt_of_mul_lt_mul_right h1
  have h3 := Nat.lt_of_mul_lt_mul_right h2
  have h4 := h.l2
  rcases Nat.lt_or_ge q B with hq | hq
  · exact hq
  · have : B * v1 ≤ q * v1 := Nat.mul_le_mul_right v1 hq
    rw [Nat.mul_comm B v1] at this
    omega
theorem kn_none {U v q Wf : Nat} (hv : 0 < v) (h1 : U / v ≤ q) (h : Wf + q * v = U) : q = U / v ∧ Wf = U % v := by
  have h2 : q ≤ U / v := by
    rw [Nat.le_div_iff_mul_le hv]
    omega
  have h3 : q = U / v := Nat.le_antisymm h2 h1
  refine ⟨h3, ?_⟩
  have := Nat.div_add_mod U v
  rw [← h3, Nat.mul_comm] at this
  omega
theorem kn_back {U v q Wf T : Nat} (hv : 0 < v) (h2 : q ≤ U / v + 1) (h : Wf + q * v = U + T) (ht : Wf < T) : q = U / v + 1 ∧ Wf + v = U % v + T := by
  have h3 : U / v < q := by
    rcases Nat.lt_or_ge (U / v) q with hq | hq
    · exact hq
    · have : q * v ≤ U := Nat.le_trans (Nat.mul_le_mul_right v hq) (Nat.div_mul_le_self U v)
      omega
  have h4 : q = U / v + 1 := by omega
  refine ⟨h4, ?_⟩
  have := Nat.div_add_mod U v
  rw [h4, Nat.add_mul, Nat.one_mul, Nat.mul_comm (U / v)] at h
  omega
end Go.Num
namespace Go.Num
theorem ediv_signed (a b : Int) (hb : b ≠ 0) : a / (b.sign * (b.gcd a : Int)) = b.sign * a / (b.gcd a : Int) := by
  have hd : (b.gcd a : Int) ∣ a := Int.gcd_dvd_right b a
  rcases Int.lt_or_gt_of_ne hb with h | h
  · rw [Int.sign_eq_neg_one_of_neg h]
    simp only [Int.neg_mul, Int.one_mul, Int.ediv_neg]
    rw [Int.neg_ediv_of_dvd hd]
  · rw [Int.sign_eq_one_of_pos h]
    simp
theorem low_terms (a b : Int) (hb : b ≠ 0) : (Rat.divInt a b).num = a / (b.sign * (b.gcd a : Int)) ∧ ((Rat.divInt a b).den : Int) = b / (b.sign * (b.gcd a : Int)) := by
  constructor
  · rw [ediv_signed a b hb, Rat.num_divInt]
  · rw [Rat.den_divInt, if_neg hb]
    have hd : (b.gcd a : Int) ∣ b := Int.gcd_dvd_left b a
    rcases Int.lt_or_gt_of_ne hb with h | h
    · rw [Int.sign_eq_neg_one_of_neg h]
      simp only [Int.neg_mul, Int.one_mul, Int.ediv_neg]
      rw [← Int.neg_ediv_of_dvd hd, Int.natCast_ediv]
      congr 1
      omega
    · rw [Int.sign_eq_one_of_pos h, Int.one_mul, Int.natCast_ediv]
      congr 1
      omega
theorem signed_dvd_left (a b : Int) : (b.sign * (b.gcd a : Int)) ∣ b := by
  rcases Int.lt_trichotomy b 0 with h | h | h
  · rw [Int.sign_eq_neg_one_of_neg h, Int.neg_mul, Int.one_mul, Int.neg_dvd]
    exact Int.gcd_dvd_left b a
  · subst h; simp
  · rw [Int.sign_eq_one_of_pos h, Int.one_mul]
    exact Int.gcd_dvd_left b a
theorem signed_dvd_right (a b : Int) (hb : b ≠ 0) : (b.sign * (b.gcd a : Int)) ∣ a := by
  rcases Int.lt_or_gt_of_ne hb with h | h
  · rw [Int.sign_eq_neg_one_of_neg h, Int.neg_mul, Int.one_mul, Int.neg_dvd]
    exact Int.gcd_dvd_right b a
  · rw [Int.sign_eq_one_of_pos h, Int.one_mul]
    exact Int.gcd_dvd_right b a
theorem sign_divInt (n d : Int) (hd : 0 < d) : (Rat.divInt n d).num.sign = n.sign := by
  rw [Rat.num_divInt, Int.sign_eq_one_of_pos hd, Int.one_mul]
  have hg : (d.gcd n : Int) ∣ n := Int.gcd_dvd_right d n
  have hp : 0 < (d.gcd n : Int) := by
    have : d.gcd n ≠ 0 := fun e => by
      have := (Int.gcd_eq_zero_iff.1 e).1
      omega
    omega
  obtain ⟨c, hc⟩ := hg
  have : n / (d.gcd n : Int) = c := by
    conv => lhs; lhs; rw [hc]
    exact Int.mul_ediv_cancel_left c (by omega)
  rw [this]
  conv => rhs; rw [hc]
  rw [Int.sign_mul, Int.sign_eq_one_of_pos hp, Int.one_mul]
theorem sz_num (n d : Int) {k : Nat} (h : Sz n k) : Sz (Rat.divInt n d).num k := by
  rw [Rat.num_divInt]
  refine Nat.lt_of_le_of_lt ?_ h
  refine Nat.le_trans (Int.natAbs_ediv_le_natAbs _ _) ?_
  rw [Int.natAbs_mul]
  have : d.sign.natAbs ≤ 1 := by
    rcases Int.lt_trichotomy d 0 with h | h | h
    · rw [Int.sign_eq_neg_one_of_neg h]; decide
    · subst h; decide
    · rw [Int.sign_eq_one_of_pos h]; decide
  calc d.sign.natAbs * n.natAbs ≤ 1 * n.natAbs := Nat.mul_le_mul_right _ this
    _ = n.natAbs := Nat.one_mul _
theorem sz_den (n d : Int) {k : Nat} (hd : d ≠ 0) (h : Sz d k) : Sz (Rat.divInt n d).den k := by
  rw [Rat.den_divInt, if_neg hd]
  exact Nat.lt_of_le_of_lt (Nat.div_le_self _ _) h
end Go.Num
