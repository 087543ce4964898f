/- A state for a whole world; the arguments as the form reads them. -/
import Derived.Test.YtfdflggfffajaaaGreatDoorGo
import Derived.Deep.Slices
import GoSem.ClaimJoined
import Derived.Test.YtfdflggfffajaaaGreatDoorListD
import Derived.OpenShut
set_option linter.unusedVariables false
set_option linter.unusedSimpArgs false
set_option linter.unusedSectionVars false
namespace Go.Sym
open Go
noncomputable section
def idEnv (N M : Nat) : Env := ⟨fun i => if i < N then some i else none, fun k => if k < M then some (capBase + k) else none⟩
theorem idEnv_blk {N M i b : Nat} (h : (idEnv N M).blk i = some b) : b = i ∧ i < N := by
  unfold idEnv at h
  simp only at h
  split at h
  · injection h with h
    exact ⟨h.symm, by assumption⟩
  · cases h
theorem idEnv_b {N M i : Nat} (h : ((idEnv N M).blk i).isSome) : (idEnv N M).b i = i := by
  obtain ⟨b, hb⟩ := Option.isSome_iff_exists.1 h
  unfold Env.b
  rw [hb]
  exact (idEnv_blk hb).1
theorem idEnv_cap {N M k : Nat} : (idEnv N M).cap k = if k < M then some (capBase + k) else none := rfl
theorem capOf_id {K M c : Nat} (h : c < K ∨ (if c - K < M then some (K + (c - K)) else none : Option Nat).isSome) : (if c < K then c else ((if c - K < M then some (K + (c - K)) else none : Option Nat).getD 0)) = c := by
  by_cases hc : c < K
  · rw [if_pos hc]
  · rw [if_neg hc]
    have h := h.resolve_left hc
    by_cases hi : c - K < M
    · simp only [hi, if_true, Option.getD_some]
      omega
    · simp [hi] at h
theorem idEnv_c {N M c : Nat} (h : c < capBase ∨ ((idEnv N M).cap (c - capBase)).isSome) : renC (idEnv N M) c = c := by
  rw [idEnv_cap] at h
  unfold renC Env.c
  rw [idEnv_cap]
  exact capOf_id h
mutual
theorem ren_id {N M : Nat} : ∀ v, ok (idEnv N M) v → ren (idEnv N M) v = v
  | .pointer none, _ => rfl
  | .pointer (some a), h => by
    simp only [ok] at h
    simp only [ren, Option.map_some, renA, idEnv_b (h a rfl)]
  | .slice none n c, h => by
    simp only [ok] at h
    simp only [ren, Option.map_none, idEnv_c h.2]
  | .slice (some a) n c, h => by
    simp only [ok] at h
    simp only [ren, Option.map_some, renA, idEnv_b (h.1 a rfl), idEnv_c h.2]
  | .map none, _ => rfl
  | .map (some r), h => by
    simp only [ok] at h
    simp only [ren, Option.map_some, idEnv_b (h r rfl)]
  | .chan none, _ => rfl
  | .chan (some r), h => by
    simp only [ok] at h
    simp only [ren, Option.map_some, idEnv_b (h r rfl)]
  | .func _ x y, h => by
    simp only [ok] at h
    simp only [ren, renArr_id x h.1, renArr_id y h.2]
  | .iface _ v, h => by
    simp only [ok] at h
    simp only [ren, ren_id v h]
  | .agg cs, h => by
    simp only [ok] at h
    simp only [ren, renArr_id cs h]
  | .tuple cs, h => by
    simp only [ok] at h
    simp only [ren, renArr_id cs h]
  | .bool _, _ | .int _ _, _ | .float _ _, _ | .complex _ _ _, _ | .string _, _ | .nilFunc, _ | .nilIface, _ => rfl
theorem renArr_id {N M : Nat} : ∀ a, okA (idEnv N M) a → renArr (idEnv N M) a = a
  | ⟨l⟩, h => by
    simp only [okA] at h
    simp only [renArr, renL_id l h]
theorem renL_id {N M : Nat} : ∀ l, okL (idEnv N M) l → renL (idEnv N M) l = l
  | [], _ => rfl
  | v :: r, h => by
    simp only [okL] at h
    simp only [renL, ren_id v h.1, renL_id r h.2]
end
theorem idEnv_ext {N M N' M' : Nat} (h : N ≤ N') (k : M ≤ M') : Ext (idEnv N M) (idEnv N' M') where
  blk := fun i b e => by
    obtain ⟨rfl, hi⟩ := idEnv_blk e
    exact if_pos (Nat.lt_of_lt_of_le hi h)
  cap := fun i b e => by
    unfold idEnv at e ⊢
    simp only at e ⊢
    split at e
    · rename_i hi
      rw [if_pos (Nat.lt_of_lt_of_le hi k)]
      exact e
    · cases e
mutual
theorem ok_some : ∀ v, ∃ N M, ok (idEnv N M) v
  | .pointer none => ⟨0, 0, by simp [ok]⟩
  | .pointer (some a) => ⟨a.block + 1, 0, by simp [ok, idEnv]⟩
  | .slice none n c => ⟨0, c - capBase + 1, by simp [ok, idEnv]⟩
  | .slice (some a) n c => ⟨a.block + 1, c - capBase + 1, by simp [ok, idEnv]⟩
  | .map none => ⟨0, 0, by simp [ok]⟩
  | .map (some r) => ⟨r + 1, 0, by simp [ok, idEnv]⟩
  | .chan none => ⟨0, 0, by simp [ok]⟩
  | .chan (some r) => ⟨r + 1, 0, by simp [ok, idEnv]⟩
  | .func _ x y => by
    obtain ⟨N, M, h⟩ := okA_some x
    obtain ⟨N', M', h'⟩ := okA_some y
    refine ⟨max N N', max M M', ?_⟩
    simp only [ok]
    exact ⟨okA_ext (idEnv_ext (Nat.le_max_left _ _) (Nat.le_max_left _ _)) x h, okA_ext (idEnv_ext (Nat.le_max_right _ _) (Nat.le_max_right _ _)) y h'⟩
  | .iface _ v => by
    obtain ⟨N, M, h⟩ := ok_some v
    exact ⟨N, M, by simpa only [ok] using h⟩
  | .agg cs => by
    obtain ⟨N, M, h⟩ := okA_some cs
    exact ⟨N, M, by simpa only [ok] using h⟩
  | .tuple cs => by
    obtain ⟨N, M, h⟩ := okA_some cs
    exact ⟨N, M, by simpa only [ok] using h⟩
  | .bool _ | .int _ _ | .float _ _ | .complex _ _ _ | .string _ | .nilFunc | .nilIface => ⟨0, 0, by simp [ok]⟩
theorem okA_some : ∀ a, ∃ N M, okA (idEnv N M) a
  | ⟨l⟩ => by
    obtain ⟨N, M, h⟩ := okL_some l
    exact ⟨N, M, by simpa only [okA] using h⟩
theorem okL_some : ∀ l, ∃ N M, okL (idEnv N M) l
  | [] => ⟨0, 0, by simp [okL]⟩
  | v :: r => by
    obtain ⟨N, M, h⟩ := ok_some v
    obtain ⟨N', M', h'⟩ := okL_some r
    refine ⟨max N N', max M M', ?_⟩
    simp only [okL]
    exact ⟨ok_ext (idEnv_ext (Nat.le_max_left _ _) (Nat.le_max_left _ _)) v h, okL_ext (idEnv_ext (Nat.le_max_right _ _) (Nat.le_max_right _ _)) r h'⟩
end
def cellsOfObj : Obj → List Value
  | .cells cs _ _ => cs.toList
  | _ => []
def objAt (w : World) (i : Nat) : Option SObj :=
  match w.heap[i]? with
  | some (.cells cs _ _) => some (.ro cs.toList)
  | _ => none
theorem objAt_ro {w : World} {i : Nat} {o : SObj} (h : objAt w i = some o) : ∃ cs e k, w.heap[i]? = some (.cells cs e k) ∧ o = .ro cs.toList := by
  unfold objAt at h
  split at h
  · rename_i cs e k hc
    injection h with h
    exact ⟨cs, e, k, hc, h.symm⟩
  · cases h
theorem objAt_lt {w : World} {i : Nat} {o : SObj} (h : objAt w i = some o) : i < w.heap.size := by
  obtain ⟨cs, e, k, hc, _⟩ := objAt_ro h
  exact (Array.getElem?_eq_some_iff.1 hc).1
theorem heap_some (w : World) : ∃ N M, ∀ i o, objAt w i = some o → ∀ x ∈ o.cells, ok (idEnv N M) x := by
  obtain ⟨N, M, h⟩ := okL_some (w.heap.toList.flatMap cellsOfObj)
  refine ⟨N, M, fun i o ho x hx => ?_⟩
  obtain ⟨cs, e, k, hc, rfl⟩ := objAt_ro ho
  refine (okL_iff _).1 h x (List.mem_flatMap.2 ⟨.cells cs e k, ?_, hx⟩)
  have := Array.mem_of_getElem? hc
  exact this.val
def memTo (w : World) : Nat → Tr SRef
  | 0 => .leaf
  | n + 1 => match objAt w n with
    | some o => (memTo w n).set n (some (.own o))
    | none => memTo w n
theorem memTo_get (w : World) (i : Nat) : ∀ n, (memTo w n).get i = if i < n then (objAt w i).map SRef.own else none
  | 0 => by
    show (Tr.leaf : Tr SRef).get i = _
    rw [Tr.get_leaf, if_neg (Nat.not_lt_zero i)]
  | n + 1 => by
    have ih := memTo_get w i n
    unfold memTo
    cases ho : objAt w n with
    | some o =>
      show ((memTo w n).set n (some (.own o))).get i = _
      rw [Tr.get_set]
      by_cases hi : i = n
      · subst hi
        rw [if_pos rfl, if_pos (Nat.lt_succ_self i), ho]
        rfl
      · rw [if_neg hi, ih]
        by_cases hl : i < n
        · rw [if_pos hl, if_pos (by omega)]
        · rw [if_neg hl, if_neg (by omega)]
    | none =>
      show (memTo w n).get i = _
      rw [ih]
      by_cases hi : i = n
      · subst hi
        rw [if_neg (Nat.lt_irrefl i), if_pos (Nat.lt_succ_self i), ho]
        rfl
      · by_cases hl : i < n
        · rw [if_pos hl, if_pos (by omega)]
        · rw [if_neg hl, if_neg (by omega)]
def startSt (w : World) (N M : Nat) (rs : List (Nat × Nat)) : St := { next := N, nextC := M, mem := refs rs (memTo w w.heap.size), caps := .leaf, low := N }
theorem refs_look {cx : Ctx} {w : World} : ∀ (rs : List (Nat × Nat)) (t : Tr SRef), (∀ p ∈ rs, ∃ o, cx.rows.get p.2 = some o ∧ objAt w p.1 = some o) → (∀ i, (t.get i).bind (refOf cx) = objAt w i) → ∀ i, ((refs rs t).get i).bind (refOf cx) = objAt w i
  | [], t, _, ht, i => ht i
  | p :: r, t, h, ht, i => by
    refine refs_look r _ (fun q hq => h q (List.mem_cons_of_mem _ hq)) (fun j => ?_) i
    rw [Tr.get_set]
    by_cases hj : j = p.1
    · rw [if_pos hj]
      obtain ⟨o, h1, h2⟩ := h p List.mem_cons_self
      rw [hj, h2]
      exact h1
    · rw [if_neg hj]
      exact ht j
section
variable {cx : Ctx} {w : World} {N M : Nat} {rs : List (Nat × Nat)} (hr : ∀ p ∈ rs, ∃ o, cx.rows.get p.2 = some o ∧ objAt w p.1 = some o)
include hr
theorem start_look (i : Nat) : look cx (startSt w N M rs) i = objAt w i := by
  refine refs_look rs _ hr (fun i => ?_) i
  rw [memTo_get]
  by_cases hi : i < w.heap.size
  · rw [if_pos hi]
    cases objAt w i with
    | none => rfl
    | some o => rfl
  · rw [if_neg hi]
    cases ho : objAt w i with
    | none => rfl
    | some o => exact absurd (objAt_lt ho) hi
theorem start_den (hs : w.heap.size ≤ N) (hg : cx.P.globals.size ≤ N) (hk : ∀ i o, objAt w i = some o → ∀ x ∈ o.cells, ok (idEnv N M) x) :
    WF (vw cx (startSt w N M rs)) ∧ Den cx.P Every (vw cx (startSt w N M rs)) (idEnv N M) w := by
  have hM : (vw cx (startSt w N M rs)).M = objAt w := funext fun i => start_look hr i
  refine ⟨⟨fun i o h => ?_, fun i lo h => ?_⟩, ⟨fun g hg' => if_pos (by omega), fun i o b _ h e => ?_, fun i j o p b _ _ _ _ e e' => ?_, fun k lo c h _ => ?_, fun i hi => ?_, fun i hi => ?_⟩⟩
  · rw [hM] at h
    exact Nat.lt_of_lt_of_le (objAt_lt h) hs
  · have : (Tr.leaf : Tr Nat).get i = some lo := h
    rw [Tr.get_leaf] at this
    cases this
  · rw [hM] at h
    obtain ⟨rfl, _⟩ := idEnv_blk e
    have hc := hk _ _ h
    refine ⟨hc, ?_⟩
    have hlt := objAt_lt h
    obtain ⟨cs, e', k, hc', rfl⟩ := objAt_ro h
    refine ⟨hlt, fun j v hv => ?_⟩
    rw [ren_id v (hc v (List.mem_of_getElem? hv))]
    unfold World.cell?
    rw [hc']
    simpa using hv
  · exact (idEnv_blk e).1.symm.trans (idEnv_blk e').1
  · have : (Tr.leaf : Tr Nat).get k = some lo := h
    rw [Tr.get_leaf] at this
    cases this
  · exact if_neg (Nat.not_lt.2 hi)
  · exact if_neg (Nat.not_lt.2 hi)
theorem start_run (hC : CtxOk cx) {f : FuncId} {args : List Value} (hs : w.heap.size ≤ N) (hg : cx.P.globals.size ≤ N) (hk : ∀ i o, objAt w i = some o → ∀ x ∈ o.cells, ok (idEnv N M) x) (ha : okL (idEnv N M) args)
    (h : C cx f args (startSt w N M rs) fun v _ => v = .bool true) : Calls cx.P f args.toArray w fun e w' => e = .returned (.bool true) ∧ Grown w w' := by
  obtain ⟨hwf, hd⟩ := start_den hr hs hg hk
  obtain ⟨k, r, v, h1, h2, rfl⟩ := h ⟨0, .leaf⟩
  have ha' := (okL_iff args).1 ha
  have hmap : args.map (ren (idEnv N M)) = args := by
    conv => rhs; rw [← List.map_id args]
    exact List.map_congr_left fun x hx => ren_id x (ha' x hx)
  have key := (run_sound hC k).2.2.2.2 f args _ _ r h1 (idEnv N M) w hwf hd ha'
  rw [hmap] at key
  refine key.mono fun e w' hen => ?_
  obtain ⟨η', v', rfl, hget, _, _, hkept, _⟩ := hen
  rw [h2] at hget
  injection hget with hget
  subst hget
  refine ⟨rfl, hkept.os, hkept.tape, hkept.output, hkept.size, fun b hb => hkept.frame b hb fun i hi => ?_⟩
  obtain ⟨_, o, ho, hro⟩ := hi
  have ho' : objAt w i = some o := (start_look hr i).symm.trans ho
  obtain ⟨_, _, _, _, rfl⟩ := objAt_ro ho'
  cases hro
end
end
end Go.Sym
namespace Go.Sym
open Go
open Go.Deep (open_slice choose_lt)
noncomputable section
theorem weightsAll_mem {H : Type} {P : Program} {e : TypeId} {y : Nat} : ∀ {l : List (DataW H)} {d : DataW H}, d ∈ l → y ∈ d.weights P e → y ∈ DataW.weightsAll P e l
  | [], _, h, _ => by cases h
  | a :: r, d, h, hy => by
    simp only [DataW.weightsAll, List.mem_append]
    rcases List.mem_cons.1 h with rfl | h
    · exact .inl hy
    · exact .inr (weightsAll_mem h hy)
theorem weightsEach_mem {H : Type} {P : Program} {y : Nat} : ∀ {ts : List TypeId} {l : List (DataW H)} (i : Nat) {t : TypeId} {d : DataW H}, ts[i]? = some t → l[i]? = some d → y ∈ d.weights P t → y ∈ DataW.weightsEach P ts l
  | [], _, i, _, _, h, _, _ => by simp at h
  | _ :: _, [], i, _, _, _, h, _ => by simp at h
  | t :: ts, d :: l, 0, _, _, h, h', hy => by
    simp only [List.getElem?_cons_zero, Option.some.injEq] at h h'
    subst h h'
    simp only [DataW.weightsEach, List.mem_append]
    exact .inl hy
  | t :: ts, d :: l, i + 1, _, _, h, h', hy => by
    simp only [List.getElem?_cons_succ] at h h'
    simp only [DataW.weightsEach, List.mem_append]
    exact .inr (weightsEach_mem i h h' hy)
theorem flat_read {L : List Value} {V : Nat → List Value} {s off : Nat} : ∀ n, (∀ i, i < n → (V i).length = s ∧ ∀ j, j < s → L[off + (i * s + j)]? = (V i)[j]?) → (L.drop off).take (n * s) = ((List.range n).map V).flatten
  | 0, _ => by simp
  | n + 1, h => by
    have ih := flat_read n fun i hi => h i (by omega)
    obtain ⟨h1, h2⟩ := h n (Nat.lt_succ_self n)
    rw [List.range_succ, List.map_append, List.flatten_append, ← ih, Nat.succ_mul, List.take_add]
    congr 1
    simp only [List.map_cons, List.map_nil, List.flatten_cons, List.flatten_nil, List.append_nil]
    apply List.ext_getElem?
    intro j
    by_cases hj : j < s
    · rw [List.getElem?_take_of_lt hj, List.getElem?_drop, List.getElem?_drop, h2 j hj]
    · rw [List.getElem?_eq_none (by rw [List.length_take]; omega), List.getElem?_eq_none (by omega)]
theorem flat_len {V : Nat → List Value} {s : Nat} : ∀ n, (∀ i, i < n → (V i).length = s) → ((List.range n).map V).flatten.length = n * s
  | 0, _ => by simp
  | n + 1, h => by
    rw [List.range_succ, List.map_append, List.flatten_append, List.length_append, flat_len n fun i hi => h i (by omega), Nat.succ_mul]
    simp [h n (Nat.lt_succ_self n)]
theorem cell_at {w : World} {a : Addr} {v : Value} (h : w.cell? a = some v) : ∃ bc e k, w.heap[a.block]? = some (.cells bc e k) ∧ a.spot = none ∧ bc[a.off]? = some v := by
  unfold World.cell? at h
  split at h
  · rename_i bc e k hb
    split at h
    · cases h
    · rename_i hs
      exact ⟨bc, e, k, hb, by simpa using hs, h⟩
  · cases h
theorem add_plain {a : Addr} (h : a.spot = none) (k : Nat) : a.add k = ⟨a.block, a.off + k, none⟩ := by
  obtain ⟨b, o, s⟩ := a
  change s = none at h
  subst h
  unfold Addr.add
  split
  · rename_i h0
    subst h0
    rfl
  · rfl
theorem cell_in {w : World} {b off : Nat} {bc : Array Value} {e : TypeId} {k : Nat × Nat} (h : w.heap[b]? = some (.cells bc e k)) : w.cell? ⟨b, off, none⟩ = bc.toList[off]? := by
  unfold World.cell?
  simp only [h]
  simp
structure RdN {H : Type} (enc : TypeId × Value → H) (P : Program) (W : World) (N M : Nat) (t : TypeId) (cs : List Value) : Prop where
  rd : ∃ fuel x, DataW.trod enc P W 0 (fun _ => true) true fuel t cs = some x ∧ ∀ y ∈ x.1.weights P t, y ≤ reachBytes
  ok : okL (idEnv N M) cs
section
variable {H : Type} {enc : TypeId × Value → H} {cx : Ctx} {W : World} {N M : Nat} {rs : List (Nat × Nat)}
theorem rd_slice (hr : ∀ p ∈ rs, ∃ o, cx.rows.get p.2 = some o ∧ objAt W p.1 = some o) (hk : ∀ i o, objAt W i = some o → ∀ x ∈ o.cells, Sym.ok (idEnv N M) x)
    {t e : TypeId} {s : Nat} {cs : List Value} (ht : cx.P.underlying t = some (.slice e)) (hs : cx.P.cellsOf e = s) (hp : 0 < s) (h : RdN enc cx.P W N M t cs) :
    ∃ (b : Option Addr) (n c : Nat) (E : List (List Value)), cs = [.slice b n c] ∧ Sl cx (startSt W N M rs) s b n c E.flatten ∧ E.length = n ∧ n * cx.P.bytesOf e ≤ reachBytes ∧ ∀ l ∈ E, l.length = s ∧ RdN enc cx.P W N M e l := by
  obtain ⟨⟨fuel, x, hx, hw⟩, hok⟩ := h
  rcases open_slice ht hx with ⟨rfl, rfl⟩ | ⟨a, len, cap, m, n, D, Pl, rfl, hb, hl, hm, hmm, rfl, hel⟩
  · exact ⟨none, 0, 0, [], rfl, SlW.none, rfl, by rw [Nat.zero_mul]; exact Nat.zero_le _, by simp⟩
  · have hm' : m = cap := by simpa using hmm
    subst hm'
    rw [hs] at hel
    obtain ⟨V, hV⟩ := choose_lt (α := List Value) (p := fun i cs' => W.cells? 0 (a.add (i * s)) s = some cs' ∧ DataW.trod enc cx.P W 0 (fun _ => true) true n e cs' = some (D i, Pl i)) hel
    simp only [DataW.weights, ht] at hw
    have hlen : ∀ i, i < len → (V i).length = s := fun i hi => (World.cells?_some (hV i (by omega)).1).2.1
    have hcell : ∀ i, i < len → ∀ j, j < s → W.cell? (a.add (i * s + j)) = (V i)[j]? := fun i hi j hj => by
      have := (World.cells?_some (hV i (by omega)).1).2.2 j hj
      rwa [Go.Deep.add_add] at this
    have hblk : a.block < N ∧ m < capBase := by
      simp only [okL, Sym.ok] at hok
      obtain ⟨b, hb⟩ := Option.isSome_iff_exists.1 (hok.1.1 a rfl)
      refine ⟨(idEnv_blk hb).2, Nat.lt_of_le_of_lt hm ?_⟩
      decide
    have hin : 0 < len → a.spot = none ∧ ∃ bc e' k, W.heap[a.block]? = some (.cells bc e' k) ∧ ∀ i, i < len → ∀ j, j < s → bc.toList[a.off + (i * s + j)]? = (V i)[j]? := fun h0 => by
      have h1 := hcell 0 h0 0 hp
      have h2 : a.add (0 * s + 0) = a := by
        rw [Nat.zero_mul]
        rfl
      obtain ⟨v, hv⟩ : ∃ v, (V 0)[0]? = some v := ⟨_, List.getElem?_eq_getElem (by rw [hlen 0 h0]; exact hp)⟩
      rw [h2, hv] at h1
      obtain ⟨bc, e', k, hbc, hsp, _⟩ := cell_at h1
      refine ⟨hsp, bc, e', k, hbc, fun i hi j hj => ?_⟩
      have := hcell i hi j hj
      rw [add_plain hsp, cell_in hbc] at this
      exact this
    refine ⟨some a, len, m, (List.range len).map V, rfl, ⟨flat_len len hlen, .inl ⟨hblk.2, hl⟩, (fun e => by cases e), fun a' ha' => ?_⟩, by simp, ?_, fun l hl' => ?_⟩
    · injection ha' with ha'
      subst ha'
      refine ⟨hblk.1, fun h0 => ?_⟩
      obtain ⟨hsp, bc, e', k, hbc, hread⟩ := hin h0
      refine ⟨hsp, .ro bc.toList, (start_look (N := N) (M := M) hr a.block).trans (by unfold objAt; rw [hbc]), ?_, flat_read len fun i hi => ⟨hlen i hi, hread i hi⟩⟩
      have h1 := hread (len - 1) (by omega) (s - 1) (by omega)
      obtain ⟨v, hv⟩ : ∃ v, (V (len - 1))[s - 1]? = some v := ⟨_, List.getElem?_eq_getElem (by rw [hlen (len - 1) (by omega)]; omega)⟩
      rw [hv] at h1
      have h2 := (List.getElem?_eq_some_iff.1 h1).1
      have h3 : (len - 1) * s + s = len * s := by rw [← Nat.succ_mul]; congr 1; omega
      show a.off + len * s ≤ bc.toList.length
      omega
    · have := hw _ List.mem_cons_self
      refine Nat.le_trans (Nat.mul_le_mul_right _ ?_) this
      simp
    · obtain ⟨i, hi, rfl⟩ := List.mem_map.1 hl'
      have hi : i < len := by simpa using hi
      refine ⟨hlen i hi, ⟨n, _, (hV i (by omega)).2, fun y hy => hw y (List.mem_cons_of_mem _ (List.mem_append_left _ (weightsAll_mem (List.mem_map.2 ⟨i, by simpa using hi, rfl⟩) hy)))⟩, ?_⟩
      obtain ⟨hsp, bc, e', k, hbc, hread⟩ := hin (by omega)
      refine (okL_iff _).2 fun x hx => ?_
      obtain ⟨j, hj, rfl⟩ := List.getElem_of_mem hx
      have h1 := hread i hi j (by rw [← hlen i hi]; exact hj)
      rw [List.getElem?_eq_getElem hj] at h1
      exact hk a.block (.ro bc.toList) (by unfold objAt; rw [hbc]) _ (List.mem_of_getElem? h1)
theorem rd_struct {t : TypeId} {fs : Array Field} {cs : List Value} (ht : cx.P.underlying t = some (.struct fs)) (h : RdN enc cx.P W N M t cs) :
    cs.length = cx.P.cellsOf t ∧ ∀ (i : Nat) (f : Field) (m : Nat), fs[i]? = some f → cx.P.cellsOf f.type = m → RdN enc cx.P W N M f.type ((cs.drop f.offset).take m) := by
  obtain ⟨⟨fuel, x, hx, hw⟩, hok⟩ := h
  obtain ⟨xs, n, _, rfl, hlen, hxs, hf⟩ := DataW.trod_struct ht hx
  refine ⟨hlen, fun i f m hi hm => ⟨?_, (okL_iff _).2 fun x hx => (okL_iff _).1 hok x (List.mem_of_mem_drop (List.mem_of_mem_take hx))⟩⟩
  have h1 := hf i f hi
  rw [hm] at h1
  have hlt : i < xs.length := by rw [hxs]; exact (Array.getElem?_eq_some_iff.1 hi).1
  rw [List.getElem?_eq_getElem hlt] at h1
  refine ⟨n, _, h1, fun y hy => hw y ?_⟩
  simp only [DataW.weights, ht]
  refine weightsEach_mem i (t := f.type) (d := xs[i].1) ?_ ?_ hy
  · rw [List.getElem?_map, Array.getElem?_toList, hi]
    rfl
  · rw [List.getElem?_map, List.getElem?_eq_getElem hlt]
    rfl
theorem rd_int {t : TypeId} {k : IntKind} {cs : List Value} (ht : cx.P.underlying t = some (.int k)) (h : RdN enc cx.P W N M t cs) : ∃ n, cs = [.int k n] ∧ (Lit.int k n).wf = true := by
  obtain ⟨⟨fuel, x, hx, _⟩, _⟩ := h
  obtain ⟨n, h1, _, h2⟩ := DataW.trod_int ht hx
  exact ⟨n, h1, h2⟩
theorem rd_bool {t : TypeId} {cs : List Value} (ht : cx.P.underlying t = some .bool) (h : RdN enc cx.P W N M t cs) : ∃ b, cs = [.bool b] := by
  obtain ⟨⟨fuel, x, hx, _⟩, _⟩ := h
  obtain ⟨b, h1, _⟩ := DataW.trod_bool ht hx
  exact ⟨b, h1⟩
theorem rd_string {t : TypeId} {cs : List Value} (ht : cx.P.underlying t = some .string) (h : RdN enc cx.P W N M t cs) : ∃ s, cs = [.string s] := by
  obtain ⟨⟨fuel, x, hx, _⟩, _⟩ := h
  obtain ⟨s, h1, _⟩ := DataW.trod_string ht hx
  exact ⟨s, h1⟩
end
theorem enc_list {α : Type} {enc : α → List Value} {p : α → Prop} : ∀ (E : List (List Value)), (∀ l ∈ E, ∃ a, l = enc a ∧ p a) → ∃ F : List α, E.flatten = F.flatMap enc ∧ E.length = F.length ∧ ∀ a ∈ F, p a
  | [], _ => ⟨[], rfl, rfl, by simp⟩
  | l :: r, h => by
    obtain ⟨F, h1, h2, h3⟩ := enc_list r fun l hl => h l (List.mem_cons_of_mem _ hl)
    obtain ⟨a, rfl, ha⟩ := h l List.mem_cons_self
    refine ⟨a :: F, by rw [List.flatten_cons, List.flatMap_cons, h1], by simp [h2], fun x hx => ?_⟩
    rcases List.mem_cons.1 hx with rfl | hx
    · exact ha
    · exact h3 x hx
end
end Go.Sym
namespace Go.Proofs.YtfdflggfffajaaaGreatDoor
open Go Go.Num Go.Proofs
open Go.Sym hiding val
noncomputable section
set_option maxHeartbeats 2000000
def rs0 : List (Nat × Nat) := [(1, 0), (2, 1), (3, 2)]
structure Ready (W : World) (N M : Nat) : Prop where
  r : ∀ p ∈ rs0, ∃ o, cxH.rows.get p.2 = some o ∧ objAt W p.1 = some o
  k : ∀ i o, objAt W i = some o → ∀ x ∈ o.cells, Sym.ok (idEnv N M) x
theorem P_eq : cxH.P = Tryz.prog := by unfold cxH; rfl
theorem u_3 : cxH.P.underlying 3 = some (.int .i64) := by rw [P_eq]; exact Tryz.underlying3
theorem u_4 : cxH.P.underlying 4 = some .bool := by rw [P_eq]; exact Tryz.underlying4
theorem u_9 : cxH.P.underlying 9 = some .string := by rw [P_eq]; exact Tryz.underlying9
theorem u_22 : cxH.P.underlying 22 = some (.slice 37) := by rw [P_eq]; exact Tryz.underlying22
theorem u_23 : cxH.P.underlying 23 = some (.slice 50) := by rw [P_eq]; exact Tryz.underlying23
theorem u_24 : cxH.P.underlying 24 = some (.slice 91) := by rw [P_eq]; exact Tryz.underlying24
theorem u_26 : cxH.P.underlying 26 = some (.struct #[{ name := "Flights", type := 22, offset := 0, embedded := false, tag := "", pkgPath := "", byteOffset := 0 }, { name := "Cuts", type := 23, offset := 1, embedded := false, tag := "", pkgPath := "", byteOffset := 24 }, { name := "CutDuals", type := 22, offset := 2, embedded := false, tag := "", pkgPath := "", byteOffset := 48 }, { name := "Decisions", type := 24, offset := 3, embedded := false, tag := "", pkgPath := "", byteOffset := 72 }, { name := "Free", type := 4, offset := 4, embedded := false, tag := "", pkgPath := "", byteOffset := 96 }]) := by rw [P_eq]; exact Tryz.underlying26
theorem u_27 : cxH.P.underlying 27 = some (.slice 54) := by rw [P_eq]; exact Tryz.underlying27
theorem u_29 : cxH.P.underlying 29 = some (.struct #[{ name := "Base", type := 9, offset := 0, embedded := false, tag := "", pkgPath := "", byteOffset := 0 }, { name := "Duties", type := 27, offset := 1, embedded := false, tag := "", pkgPath := "", byteOffset := 16 }]) := by rw [P_eq]; exact Tryz.underlying29
theorem u_33 : cxH.P.underlying 33 = some (.slice 136) := by rw [P_eq]; exact Tryz.underlying33
theorem u_35 : cxH.P.underlying 35 = some (.struct #[{ name := "Neg", type := 4, offset := 0, embedded := false, tag := "", pkgPath := "", byteOffset := 0 }, { name := "Digits", type := 33, offset := 1, embedded := false, tag := "", pkgPath := "", byteOffset := 8 }]) := by rw [P_eq]; exact Tryz.underlying35
theorem u_37 : cxH.P.underlying 37 = some (.struct #[{ name := "Num", type := 35, offset := 0, embedded := false, tag := "", pkgPath := "", byteOffset := 0 }, { name := "Den", type := 35, offset := 2, embedded := false, tag := "", pkgPath := "", byteOffset := 32 }]) := by rw [P_eq]; exact Tryz.underlying37
theorem u_42 : cxH.P.underlying 42 = some (.slice 3) := by rw [P_eq]; exact Tryz.underlying42
theorem u_50 : cxH.P.underlying 50 = some (.struct #[{ name := "Rows", type := 42, offset := 0, embedded := false, tag := "", pkgPath := "", byteOffset := 0 }, { name := "Div", type := 3, offset := 1, embedded := false, tag := "", pkgPath := "", byteOffset := 24 }]) := by rw [P_eq]; exact Tryz.underlying50
theorem u_54 : cxH.P.underlying 54 = some (.slice 88) := by rw [P_eq]; exact Tryz.underlying54
theorem u_88 : cxH.P.underlying 88 = some (.struct #[{ name := "Flight", type := 3, offset := 0, embedded := false, tag := "", pkgPath := "", byteOffset := 0 }, { name := "Head", type := 4, offset := 1, embedded := false, tag := "", pkgPath := "", byteOffset := 8 }]) := by rw [P_eq]; exact Tryz.underlying88
theorem u_91 : cxH.P.underlying 91 = some (.struct #[{ name := "First", type := 3, offset := 0, embedded := false, tag := "", pkgPath := "", byteOffset := 0 }, { name := "Next", type := 3, offset := 1, embedded := false, tag := "", pkgPath := "", byteOffset := 8 }, { name := "Together", type := 4, offset := 2, embedded := false, tag := "", pkgPath := "", byteOffset := 16 }]) := by rw [P_eq]; exact Tryz.underlying91
theorem u_136 : cxH.P.underlying 136 = some (.int .u32) := by rw [P_eq]; exact Tryz.underlying136
theorem c_3 : cxH.P.cellsOf 3 = 1 := by kernel_rfl
theorem c_4 : cxH.P.cellsOf 4 = 1 := by kernel_rfl
theorem c_9 : cxH.P.cellsOf 9 = 1 := by kernel_rfl
theorem c_22 : cxH.P.cellsOf 22 = 1 := by kernel_rfl
theorem c_23 : cxH.P.cellsOf 23 = 1 := by kernel_rfl
theorem c_24 : cxH.P.cellsOf 24 = 1 := by kernel_rfl
theorem c_26 : cxH.P.cellsOf 26 = 5 := by kernel_rfl
theorem c_27 : cxH.P.cellsOf 27 = 1 := by kernel_rfl
theorem c_29 : cxH.P.cellsOf 29 = 2 := by kernel_rfl
theorem c_33 : cxH.P.cellsOf 33 = 1 := by kernel_rfl
theorem c_35 : cxH.P.cellsOf 35 = 2 := by kernel_rfl
theorem c_37 : cxH.P.cellsOf 37 = 4 := by kernel_rfl
theorem c_42 : cxH.P.cellsOf 42 = 1 := by kernel_rfl
theorem c_50 : cxH.P.cellsOf 50 = 2 := by kernel_rfl
theorem c_54 : cxH.P.cellsOf 54 = 1 := by kernel_rfl
theorem c_88 : cxH.P.cellsOf 88 = 2 := by kernel_rfl
theorem c_91 : cxH.P.cellsOf 91 = 3 := by kernel_rfl
theorem c_136 : cxH.P.cellsOf 136 = 1 := by kernel_rfl
theorem w_3 : cxH.P.bytesOf 3 = 8 := by kernel_rfl
theorem w_37 : cxH.P.bytesOf 37 = 64 := by kernel_rfl
theorem w_50 : cxH.P.bytesOf 50 = 32 := by kernel_rfl
theorem w_54 : cxH.P.bytesOf 54 = 24 := by kernel_rfl
theorem w_88 : cxH.P.bytesOf 88 = 16 := by kernel_rfl
theorem w_91 : cxH.P.bytesOf 91 = 24 := by kernel_rfl
theorem w_136 : cxH.P.bytesOf 136 = 4 := by kernel_rfl
theorem reach_le {n k : Nat} (h : n * k ≤ reachBytes) (hk : 0 < k) : n ≤ 1000000000000000000 := by
  have h1 : n * 1 ≤ n * k := Nat.mul_le_mul_left n hk
  have h2 : reachBytes = 140737488351232 := rfl
  omega
theorem one_of {l : List Value} (h : l.length = 1) : ∃ a, l = [a] := match l, h with | [a], _ => ⟨a, rfl⟩
theorem two_of {l : List Value} (h : l.length = 2) : ∃ a b, l = [a, b] := match l, h with | [a, b], _ => ⟨a, b, rfl⟩
theorem three_of {l : List Value} (h : l.length = 3) : ∃ a b c, l = [a, b, c] := match l, h with | [a, b, c], _ => ⟨a, b, c, rfl⟩
theorem four_of {l : List Value} (h : l.length = 4) : ∃ a b c d, l = [a, b, c, d] := match l, h with | [a, b, c, d], _ => ⟨a, b, c, d, rfl⟩
theorem five_of {l : List Value} (h : l.length = 5) : ∃ a b c d e, l = [a, b, c, d, e] := match l, h with | [a, b, c, d, e], _ => ⟨a, b, c, d, e, rfl⟩
section
variable {H : Type} {enc : TypeId × Value → H} {W : World} {N M : Nat} (hR : Ready W N M)
include hR
theorem rd_digits {v : Value} (h : RdN enc cxH.P W N M 33 [v]) : ∃ b n c l, v = .slice b n c ∧ Dg cxH (startSt W N M rs0) b n c l ∧ n ≤ 1000000000000000000 := by
  obtain ⟨b, n, c, E, e, hs, hn, hw, hE⟩ := rd_slice (rs := rs0) hR.r hR.k u_33 c_136 (by decide) h
  injection e with e _
  subst e
  obtain ⟨F, h1, h2, h3⟩ := enc_list (enc := fun x => [dig x]) (p := fun x => x < 4294967296) E (fun l hl => by
    obtain ⟨z, rfl, hz⟩ := rd_int u_136 (hE l hl).2
    have := bounds_u32 hz
    exact ⟨z.toNat, by show [Value.int .u32 z] = [.int .u32 (z.toNat : Int)]; rw [Int.toNat_of_nonneg this.1], by omega⟩)
  have e2 : F.flatMap (fun x => [dig x]) = F.map dig := by
    clear h1 h2 h3
    induction F with
    | nil => rfl
    | cons x r ih => rw [List.flatMap_cons, ih]; rfl
  rw [h1, e2] at hs
  rw [w_136] at hw
  exact ⟨b, n, c, F, rfl, ⟨hs, h3⟩, reach_le hw (by decide)⟩
theorem rd_int35 {cs : List Value} (h : RdN enc cxH.P W N M 35 cs) : ∃ s b n c l, cs = [.bool s, .slice b n c] ∧ Dg cxH (startSt W N M rs0) b n c l ∧ n ≤ 1000000000000000000 := by
  obtain ⟨hl, hf⟩ := rd_struct u_35 h
  rw [c_35] at hl
  obtain ⟨a, d, rfl⟩ := two_of hl
  have h0 : RdN enc cxH.P W N M 4 [a] := hf 0 _ 1 rfl c_4
  have h1 : RdN enc cxH.P W N M 33 [d] := hf 1 _ 1 rfl c_33
  obtain ⟨s, e⟩ := rd_bool u_4 h0
  injection e with e _
  subst e
  obtain ⟨b, n, c, l, rfl, h2, h3⟩ := rd_digits hR h1
  exact ⟨s, b, n, c, l, rfl, h2, h3⟩
theorem rd_frac {cs : List Value} (h : RdN enc cxH.P W N M 37 cs) : ∃ f : Fv, cs = encF f ∧ FvOk (startSt W N M rs0) f := by
  obtain ⟨hl, hf⟩ := rd_struct u_37 h
  rw [c_37] at hl
  obtain ⟨a, b, c, d, rfl⟩ := four_of hl
  have h0 : RdN enc cxH.P W N M 35 [a, b] := hf 0 _ 2 rfl c_35
  have h1 : RdN enc cxH.P W N M 35 [c, d] := hf 1 _ 2 rfl c_35
  obtain ⟨s1, b1, n1, c1, l1, e1, d1, k1⟩ := rd_int35 hR h0
  obtain ⟨s2, b2, n2, c2, l2, e2, d2, k2⟩ := rd_int35 hR h1
  injection e1 with e1 e1'
  injection e1' with e1' _
  injection e2 with e2 e2'
  injection e2' with e2' _
  subst e1 e1' e2 e2'
  exact ⟨⟨s1, b1, n1, c1, l1, s2, b2, n2, c2, l2⟩, rfl, d1, d2, k1, k2⟩
theorem rd_fracs {v : Value} (h : RdN enc cxH.P W N M 22 [v]) : ∃ F, SlF (startSt W N M rs0) v F ∧ F.length ≤ 1000000000000000000 := by
  obtain ⟨b, n, c, E, e, hs, hn, hw, hE⟩ := rd_slice (rs := rs0) hR.r hR.k u_22 c_37 (by decide) h
  injection e with e _
  subst e
  obtain ⟨F, h1, h2, h3⟩ := enc_list (enc := encF) (p := FvOk (startSt W N M rs0)) E (fun l hl => rd_frac hR (hE l hl).2)
  rw [h1] at hs
  rw [w_37] at hw
  have := reach_le hw (by decide)
  exact ⟨F, ⟨b, n, c, rfl, hs, by omega, h3⟩, by omega⟩
theorem rd_ints {v : Value} (h : RdN enc cxH.P W N M 42 [v]) : ∃ b n c R, v = .slice b n c ∧ Sl cxH (startSt W N M rs0) 1 b n c (ints R) ∧ n = R.length ∧ n ≤ 1000000000000000000 ∧ ∀ y ∈ R, inI y := by
  obtain ⟨b, n, c, E, e, hs, hn, hw, hE⟩ := rd_slice (rs := rs0) hR.r hR.k u_42 c_3 (by decide) h
  injection e with e _
  subst e
  obtain ⟨F, h1, h2, h3⟩ := enc_list (enc := fun x => [Value.int .i64 x]) (p := inI) E (fun l hl => by
    obtain ⟨z, rfl, hz⟩ := rd_int u_3 (hE l hl).2
    have := bounds_i64 hz
    exact ⟨z, rfl, by unfold inI; omega⟩)
  have e2 : F.flatMap (fun x => [Value.int .i64 x]) = ints F := by
    unfold ints
    clear h1 h2 h3
    induction F with
    | nil => rfl
    | cons x r ih => rw [List.flatMap_cons, ih]; rfl
  rw [h1, e2] at hs
  rw [w_3] at hw
  exact ⟨b, n, c, F, rfl, hs, by omega, reach_le hw (by decide), h3⟩
theorem rd_cut {cs : List Value} (h : RdN enc cxH.P W N M 50 cs) : ∃ x : Cv, cs = encC x ∧ CvOk (startSt W N M rs0) x := by
  obtain ⟨hl, hf⟩ := rd_struct u_50 h
  rw [c_50] at hl
  obtain ⟨a, d, rfl⟩ := two_of hl
  have h0 : RdN enc cxH.P W N M 42 [a] := hf 0 _ 1 rfl c_42
  have h1 : RdN enc cxH.P W N M 3 [d] := hf 1 _ 1 rfl c_3
  obtain ⟨b, n, c, R, rfl, hs, hn, hb, hr⟩ := rd_ints hR h0
  obtain ⟨z, e, hz⟩ := rd_int u_3 h1
  injection e with e _
  subst e
  exact ⟨⟨b, n, c, R, z⟩, rfl, hs, hn, hb, hr⟩
theorem rd_cuts {v : Value} (h : RdN enc cxH.P W N M 23 [v]) : ∃ F, SlC (startSt W N M rs0) v F ∧ F.length ≤ 1000000000000000000 := by
  obtain ⟨b, n, c, E, e, hs, hn, hw, hE⟩ := rd_slice (rs := rs0) hR.r hR.k u_23 c_50 (by decide) h
  injection e with e _
  subst e
  obtain ⟨F, h1, h2, h3⟩ := enc_list (enc := encC) (p := CvOk (startSt W N M rs0)) E (fun l hl => rd_cut hR (hE l hl).2)
  rw [h1] at hs
  rw [w_50] at hw
  have := reach_le hw (by decide)
  exact ⟨F, ⟨b, n, c, rfl, hs, by omega, h3⟩, by omega⟩
theorem rd_decs {v : Value} (h : RdN enc cxH.P W N M 24 [v]) : ∃ D, SlX (startSt W N M rs0) v D ∧ D.length ≤ 1000000000000000000 := by
  obtain ⟨b, n, c, E, e, hs, hn, hw, hE⟩ := rd_slice (rs := rs0) hR.r hR.k u_24 c_91 (by decide) h
  injection e with e _
  subst e
  obtain ⟨F, h1, h2, h3⟩ := enc_list (enc := encX) (p := fun _ => True) E (fun l hl => by
    obtain ⟨hl1, hf⟩ := rd_struct u_91 (hE l hl).2
    rw [c_91] at hl1
    obtain ⟨x, y, z, rfl⟩ := three_of hl1
    have h0 : RdN enc cxH.P W N M 3 [x] := hf 0 _ 1 rfl c_3
    have h1 : RdN enc cxH.P W N M 3 [y] := hf 1 _ 1 rfl c_3
    have h2 : RdN enc cxH.P W N M 4 [z] := hf 2 _ 1 rfl c_4
    obtain ⟨x, e, _⟩ := rd_int u_3 h0
    injection e with e _
    subst e
    obtain ⟨y, e, _⟩ := rd_int u_3 h1
    injection e with e _
    subst e
    obtain ⟨z, e⟩ := rd_bool u_4 h2
    injection e with e _
    subst e
    exact ⟨(x, y, z), rfl, trivial⟩)
  rw [h1] at hs
  rw [w_91] at hw
  have := reach_le hw (by decide)
  exact ⟨F, ⟨b, n, c, rfl, hs, by omega⟩, by omega⟩
theorem rd_duty {v : Value} (h : RdN enc cxH.P W N M 54 [v]) : ∃ l, SlD (startSt W N M rs0) v l ∧ l.length ≤ 1000000000000000000 := by
  obtain ⟨b, n, c, E, e, hs, hn, hw, hE⟩ := rd_slice (rs := rs0) hR.r hR.k u_54 c_88 (by decide) h
  injection e with e _
  subst e
  obtain ⟨F, h1, h2, h3⟩ := enc_list (enc := encT) (p := fun _ => True) E (fun l hl => by
    obtain ⟨hl1, hf⟩ := rd_struct u_88 (hE l hl).2
    rw [c_88] at hl1
    obtain ⟨x, y, rfl⟩ := two_of hl1
    have h0 : RdN enc cxH.P W N M 3 [x] := hf 0 _ 1 rfl c_3
    have h1 : RdN enc cxH.P W N M 4 [y] := hf 1 _ 1 rfl c_4
    obtain ⟨x, e, _⟩ := rd_int u_3 h0
    injection e with e _
    subst e
    obtain ⟨y, e⟩ := rd_bool u_4 h1
    injection e with e _
    subst e
    exact ⟨(x, y), rfl, trivial⟩)
  rw [h1] at hs
  rw [w_88] at hw
  have := reach_le hw (by decide)
  exact ⟨F, ⟨b, n, c, rfl, hs, by omega⟩, by omega⟩
theorem rd_pairing {cs : List Value} (h : RdN enc cxH.P W N M 29 cs) : ∃ L, SlP (startSt W N M rs0) (.agg ⟨cs⟩) L ∧ L.length ≤ 1000000000000000000 ∧ ∀ l ∈ L, l.length ≤ 1000000000000000000 := by
  obtain ⟨hl, hf⟩ := rd_struct u_29 h
  rw [c_29] at hl
  obtain ⟨a, d, rfl⟩ := two_of hl
  have h0 : RdN enc cxH.P W N M 9 [a] := hf 0 _ 1 rfl c_9
  have h1 : RdN enc cxH.P W N M 27 [d] := hf 1 _ 1 rfl c_27
  obtain ⟨s, e⟩ := rd_string u_9 h0
  injection e with e _
  subst e
  obtain ⟨b, n, c, E, e, hs, hn, hw, hE⟩ := rd_slice (rs := rs0) hR.r hR.k u_27 c_54 (by decide) h1
  injection e with e _
  subst e
  obtain ⟨F, h1, h2, h3⟩ := enc_list (enc := fun p : Value × List Tk => [p.1]) (p := fun p => SlD (startSt W N M rs0) p.1 p.2 ∧ p.2.length ≤ 1000000000000000000) E (fun l hl => by
    obtain ⟨hl1, hl2⟩ := hE l hl
    obtain ⟨v, rfl⟩ := one_of hl1
    obtain ⟨q, k1, k2⟩ := rd_duty hR hl2
    exact ⟨(v, q), rfl, k1, k2⟩)
  have e2 : F.flatMap (fun p => [p.1]) = F.map (·.1) := by
    clear h1 h2 h3
    induction F with
    | nil => rfl
    | cons x r ih => rw [List.flatMap_cons, ih]; rfl
  rw [h1, e2] at hs
  rw [w_54] at hw
  have := reach_le hw (by decide)
  refine ⟨F.map (·.2), ⟨s, b, n, c, F.map (·.1), rfl, hs, by rw [List.length_map]; omega, fun i l hi => ?_⟩, by rw [List.length_map]; omega, fun l hl => ?_⟩
  · rw [List.getElem?_map, Option.map_eq_some_iff] at hi
    obtain ⟨p, hp, rfl⟩ := hi
    exact ⟨p.1, by rw [List.getElem?_map, hp]; rfl, (h3 p (List.mem_of_getElem? hp)).1⟩
  · obtain ⟨p, hp, rfl⟩ := List.mem_map.1 hl
    exact (h3 p hp).2
theorem rd_prices {cs : List Value} (h : RdN enc cxH.P W N M 26 cs) : ∃ v0 v1 v2 v3 p, cs = [v0, v1, v2, v3, .bool p.r] ∧ PrOk (startSt W N M rs0) v0 v1 v2 v3 p := by
  obtain ⟨hl, hf⟩ := rd_struct u_26 h
  rw [c_26] at hl
  obtain ⟨v0, v1, v2, v3, v4, rfl⟩ := five_of hl
  have h0 : RdN enc cxH.P W N M 22 [v0] := hf 0 _ 1 rfl c_22
  have h1 : RdN enc cxH.P W N M 23 [v1] := hf 1 _ 1 rfl c_23
  have h2 : RdN enc cxH.P W N M 22 [v2] := hf 2 _ 1 rfl c_22
  have h3 : RdN enc cxH.P W N M 24 [v3] := hf 3 _ 1 rfl c_24
  have h4 : RdN enc cxH.P W N M 4 [v4] := hf 4 _ 1 rfl c_4
  obtain ⟨F, f1, f2⟩ := rd_fracs hR h0
  obtain ⟨C, c1, c2⟩ := rd_cuts hR h1
  obtain ⟨U, u1, u2⟩ := rd_fracs hR h2
  obtain ⟨X, x1, x2⟩ := rd_decs hR h3
  obtain ⟨r, e⟩ := rd_bool u_4 h4
  injection e with e _
  subst e
  exact ⟨v0, v1, v2, v3, ⟨F, C, U, X, r⟩, rfl, f1, c1, u1, x1, f2, c2, u2, x2⟩
end
end
end Go.Proofs.YtfdflggfffajaaaGreatDoor
