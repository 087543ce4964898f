/- An executor over names of blocks, and what its states say of a world. -/
import Derived.Calls
import Derived.Laws.Sem
import Derived.Laws.World
import Derived.Laws.CopyRow
import Derived.Laws.Cells
import Derived.Laws.AppendOwn
import Derived.Laws.Entries
set_option linter.unusedVariables false
set_option linter.unusedSimpArgs false
set_option linter.unusedSectionVars false
namespace Go.Sym
open Go
noncomputable section
inductive Tr (α : Type) where
  | leaf
  | node (l : Tr α) (v : Option α) (r : Tr α)
  deriving Inhabited
def Tr.get {α : Type} (t : Tr α) : Nat → Option α :=
  Tr.rec (fun _ => none) (fun _ v _ l r n => Nat.rec v (fun m _ => Bool.rec (r (Nat.div m 2)) (l (Nat.div m 2)) (Nat.beq (Nat.mod m 2) 0)) n) t
def Tr.one {α : Type} (x : Option α) (f : Nat) : Nat → Tr α :=
  Nat.rec (fun _ => .leaf) (fun _ ih n => Nat.rec (.node .leaf x .leaf) (fun m _ => Bool.rec (.node .leaf none (ih (Nat.div m 2))) (.node (ih (Nat.div m 2)) none .leaf) (Nat.beq (Nat.mod m 2) 0)) n) f
def Tr.put {α : Type} (f : Nat) (t : Tr α) : Nat → Option α → Tr α :=
  Tr.rec (fun n x => Tr.one x f n)
    (fun l v r pl pr n x => Nat.rec (.node l x r) (fun m _ => Bool.rec (.node l v (pr (Nat.div m 2) x)) (.node (pl (Nat.div m 2) x) v r) (Nat.beq (Nat.mod m 2) 0)) n) t
def deep : Nat := 90
def Tr.set {α : Type} (t : Tr α) (n : Nat) (x : Option α) : Tr α := t.put (n + 2) n x
def Tr.ofList {α : Type} (l : List (Nat × α)) : Tr α := l.foldl (fun t x => t.put deep x.1 (some x.2)) .leaf
def capBase : Nat := 1208925819614629174706176
inductive SObj where
  | row (cs : List Value) (e : TypeId)
  | opn (cs : List Value) (e : TypeId) (size : Nat) (cap : Nat)
  | ro (cs : List Value)
  deriving Inhabited
inductive SRef where
  | own (o : SObj)
  | ref (k : Nat)
  deriving Inhabited
structure St where
  next : Nat
  nextC : Nat
  mem : Tr SRef
  caps : Tr Nat
  low : Nat
  deriving Inhabited
structure TI where
  desc : TypeDesc
  size : Nat
  bytes : Nat
  zero : Option Value
  deriving Inhabited
structure Known where
  args : List Value
  rows : List (Nat × Nat)
  caps : List (Nat × Nat)
  next : Nat
  nextC : Nat
  val : Value
  deriving Inhabited
structure Ctx where
  P : Program
  ty : Tr TI
  fn : Tr Func
  rows : Tr SObj
  known : Tr (List Known)
structure Fr where
  n : Nat
  t : Tr Value
  deriving Inhabited
def guard' (b : Bool) : Option Unit := if b then some () else none
def orUndef : Option Value → Value
  | some v => v
  | none => undef
def Fr.eval (a : Fr) : Operand → Value
  | .tmp t => orUndef (a.t.get t)
  | .const v => v
  | .global g => .pointer (some ⟨g, 0, none⟩)
  | .func f => .func (.func f) #[] #[]
def Fr.put (a : Fr) (dst : Option Tmp) (v : Value) : Fr :=
  match dst with
  | some d => match a with
    | ⟨n, t⟩ => cond (Nat.ble (Nat.succ d) n) ⟨n, t.put deep d (some v)⟩ ⟨n, t⟩
  | none => a
def ty (cx : Ctx) (t : TypeId) : Option TI := (cx.ty.get t)
def isAggD : TypeDesc → Bool
  | .struct _ | .array _ _ => true
  | _ => false
def SObj.cells : SObj → List Value
  | .row cs _ => cs
  | .opn cs _ _ _ => cs
  | .ro cs => cs
def refOf (cx : Ctx) : SRef → Option SObj
  | .own o => some o
  | .ref k => cx.rows.get k
def look (cx : Ctx) (σ : St) (i : Nat) : Option SObj := (σ.mem.get i).bind (refOf cx)
def St.set (σ : St) (i : Nat) (o : SObj) : St := { σ with mem := σ.mem.set i (some (.own o)), low := min σ.low i }
def loadCells (cx : Ctx) (σ : St) (a : Addr) (n : Nat) : Option (List Value) := do
  guard' a.spot.isNone
  let o ← look cx σ a.block
  guard' (Nat.ble (a.off + n) o.cells.length)
  some ((o.cells.drop a.off).take n)
def loadVar (cx : Ctx) (σ : St) (t : TypeId) (a : Addr) : Option Value := do
  let i ← ty cx t
  if isAggD i.desc then do
    let cs ← loadCells cx σ a i.size
    some (.agg ⟨cs⟩)
  else do
    match ← loadCells cx σ a 1 with
    | [v] => some v
    | _ => none
def splice (cs : List Value) (o : Nat) (vs : List Value) : List Value := cs.take o ++ vs ++ cs.drop (o + vs.length)
def storeCells (cx : Ctx) (σ : St) (a : Addr) (vs : List Value) : Option St := do
  guard' a.spot.isNone
  guard' (vs.all (·.oneCell'))
  match look cx σ a.block with
  | some (.row cs e) =>
    guard' (Nat.ble (a.off + vs.length) cs.length)
    some (σ.set a.block (.row (splice cs a.off vs) e))
  | some (.opn cs e s c) =>
    guard' (Nat.ble (a.off + vs.length) cs.length)
    some (σ.set a.block (.opn (splice cs a.off vs) e s c))
  | _ => none
def storeVar (cx : Ctx) (σ : St) (t : TypeId) (a : Addr) (v : Value) : Option St := do
  let i ← ty cx t
  guard' (v.cells.size == i.size)
  storeCells cx σ a v.cells.toList
def topName : Nat := 1152921504606846976
def newRow (σ : St) (e : TypeId) (cs : List Value) : Option (St × Addr) :=
  some ({ σ with next := σ.next + 1, mem := σ.mem.set σ.next (some (.own (.row cs e))) }, ⟨σ.next, 0, none⟩)
mutual
def plain : Value → Bool
  | .bool _ | .int _ _ | .float _ _ | .complex _ _ _ | .string _ | .nilFunc | .nilIface => true
  | .pointer a => a.isNone
  | .slice a _ c => a.isNone && decide (c < capBase)
  | .map r => r.isNone
  | .chan r => r.isNone
  | .func _ x y => plainA x && plainA y
  | .iface _ v => plain v
  | .agg cs => plainA cs
  | .tuple cs => plainA cs
def plainA : Array Value → Bool
  | ⟨l⟩ => plainL l
def plainL : List Value → Bool
  | [] => true
  | v :: r => plain v && plainL r
end
def pureVal {α : Type} (P : Program) : Sem α → Option α
  | .pure a => some a
  | .program k => pureVal P (k P)
  | .mark _ k => pureVal P k
  | _ => none
def pureV (P : Program) (m : Sem Value) : Option Value :=
  match pureVal P m with
  | some v => cond (plain v) (some v) none
  | none => none
def pureN (P : Program) (m : Sem Next) : Option Value :=
  match pureVal P m with
  | some (.value v) => cond (plain v) (some v) none
  | _ => none
inductive Res where
  | val (v : Value) (σ : St)
  | enter (f : FuncId) (args : List Value)
def val (σ : St) (m : Option Value) : Option Res :=
  match m with
  | some v => some (.val v σ)
  | none => none
def intOf' : Value → Option Int
  | .int _ n => some n
  | _ => none
def natOf (v : Value) (top : Nat) : Option Nat :=
  match v with
  | .int _ (.ofNat n) => cond (Nat.ble n top) (some n) none
  | _ => none
def ixOf (v : Value) (top : Nat) : Option Nat :=
  match v with
  | .int _ (.ofNat n) => cond (Nat.ble (Nat.succ n) top) (some n) none
  | _ => none
def addrOf : Value → Option Addr
  | .pointer (some a) => some a
  | _ => none
def partOf (cx : Ctx) (t : TypeId) (cs : List Value) (off : Nat) : Option Value := do
  let i ← ty cx t
  if isAggD i.desc then some (.agg ⟨(cs.drop off).take i.size⟩)
  else cs[off]?
def opBuild (cx : Ctx) (t : TypeId) (parts : List (Nat × Value)) : Option Value := do
  let i ← ty cx t
  let z ← i.zero
  match i.desc with
  | .struct fields =>
    let places ← fields.toList.mapM fun f => do
      let fi ← ty cx f.type
      some (f.offset, fi.size)
    let cells ← (Instr.fill (fun k => places[k]?) z.cells parts)
    some (.agg cells)
  | .array _ elem =>
    let ei ← ty cx elem
    let cells ← (Instr.fill (fun k => some (k * ei.size, ei.size)) z.cells parts)
    some (.agg cells)
  | _ => none
def zeros (z : List Value) : Nat → List Value
  | 0 => []
  | n + 1 => z ++ zeros z n
def opBuildSlice (cx : Ctx) (σ : St) (t : TypeId) (len : Nat) (parts : List (Nat × Value)) : Option Res := do
  let i ← ty cx t
  match i.desc with
  | .slice elem =>
    let ei ← ty cx elem
    guard' (decide (0 < ei.size ∧ len * ei.size ≤ 1000000))
    let z ← ei.zero
    guard' (z.cells.size == ei.size)
    let cells ← (Instr.fill (fun k => some (k * ei.size, ei.size)) ⟨zeros z.cells.toList len⟩ parts)
    let (σ, a) ← newRow σ elem cells.toList
    some (.val (.slice (some a) len len) σ)
  | _ => none
def opMakeSlice (cx : Ctx) (σ : St) (t : TypeId) (l c : Value) : Option Res := do
  let i ← ty cx t
  match i.desc with
  | .slice elem =>
    let ei ← ty cx elem
    let c ← natOf c 1000000
    let l ← natOf l c
    guard' (decide (ei.bytes ≤ 1000000 ∧ 0 < ei.size))
    let z ← ei.zero
    guard' (z.cells.size == ei.size)
    let (σ, a) ← newRow σ elem (zeros z.cells.toList c)
    some (.val (.slice (some a) l c) σ)
  | _ => none
def opt (f : Value → Option Nat) : Option Value → Option (Option Nat)
  | none => some none
  | some v => do
    let n ← f v
    some (some n)
def bMax (cap : Nat) : Option Value → Option Nat
  | some v => natOf v cap
  | none => some cap
def bHigh (len m : Nat) (mx : Bool) : Option Value → Option Nat
  | some v => natOf v m
  | none => cond mx none (some len)
def bLow (h : Nat) : Option Value → Option Nat
  | some v => natOf v h
  | none => some 0
def bounds (len cap : Nat) (lo hi mx : Option Value) : Option (Nat × Nat × Nat) :=
  (bMax cap mx).bind fun m => (bHigh len m mx.isSome hi).bind fun h => (bLow h lo).bind fun l => some (l, h, m)
def opSlice (cx : Ctx) (σ : St) (t : TypeId) (x : Value) (lo hi mx : Option Value) : Option Res := do
  let i ← ty cx t
  match i.desc, x with
  | .array n elem, .pointer (some a) =>
    let ei ← ty cx elem
    guard' (decide (n < capBase))
    let (l, h, m) ← bounds n n lo hi mx
    some (.val (.slice (some (if m = l then a else a.add (l * ei.size))) (h - l) (m - l)) σ)
  | .string, .string s =>
    guard' mx.isNone
    let (l, h, _) ← bounds s.size s.size lo hi none
    some (.val (.string (s.extract l h)) σ)
  | .slice elem, .slice a len cap =>
    let ei ← ty cx elem
    if cap < capBase then do
      let (l, h, m) ← bounds len cap lo hi mx
      some (.val (.slice (if m = l then a else a.map (·.add (l * ei.size))) (h - l) (m - l)) σ)
    else do
      let low ← (σ.caps.get (cap - capBase))
      match mx with
      | some _ =>
        let (l, h, m) ← bounds len low lo hi mx
        some (.val (.slice (if m = l then a else a.map (·.add (l * ei.size))) (h - l) (m - l)) σ)
      | none =>
        guard' (decide (len ≤ low))
        let (l, h, _) ← bounds len low lo hi none
        if l = 0 then some (.val (.slice a h cap) σ)
        else if l < low then
          some (.val (.slice (a.map (·.add (l * ei.size))) (h - l) (capBase + σ.nextC)) { σ with nextC := σ.nextC + 1, caps := σ.caps.set σ.nextC (some (low - l)) })
        else none
  | _, _ => none
def opIndexAddr (cx : Ctx) (t : TypeId) (x ix : Value) : Option Value := do
  let i ← ty cx t
  match i.desc, x with
  | .array len elem, .pointer (some a) =>
    let ei ← ty cx elem
    let n ← ixOf ix len
    some (.pointer (some (a.add (n * ei.size))))
  | .slice elem, .slice (some a) len _ =>
    let ei ← ty cx elem
    let n ← ixOf ix len
    some (.pointer (some (a.add (n * ei.size))))
  | _, _ => none
def opIndex (cx : Ctx) (t : TypeId) (x ix : Value) : Option Value := do
  let i ← ty cx t
  match i.desc, x with
  | .array len elem, .agg cs =>
    let ei ← ty cx elem
    let n ← ixOf ix len
    partOf cx elem cs.toList (n * ei.size)
  | .string, .string s =>
    let n ← ixOf ix s.data.toList.length
    let b ← s.data.toList[n]?
    some (.int .u8 b.toNat)
  | _, _ => none
def opFieldAddr (cx : Ctx) (s : TypeId) (x : Value) (k : Nat) : Option Value := do
  let i ← ty cx s
  let a ← addrOf x
  match i.desc with
  | .struct fields =>
    let f ← fields.toList[k]?
    let fi ← ty cx f.type
    guard' (decide (fi.size ≠ 0))
    some (.pointer (some (a.add f.offset)))
  | _ => none
def opField (cx : Ctx) (s : TypeId) (x : Value) (k : Nat) : Option Value := do
  let i ← ty cx s
  match i.desc, x with
  | .struct fields, .agg cs =>
    let f ← fields.toList[k]?
    partOf cx f.type cs.toList f.offset
  | _, _ => none
def eqNil (d : TypeDesc) : Value → Value → Option Bool
  | .slice none _ _, .slice b _ _ => if d matches .slice _ then some b.isNone else none
  | .slice (some _) _ _, .slice none _ _ => if d matches .slice _ then some false else none
  | .pointer none, .pointer b => if d matches .pointer _ then some b.isNone else none
  | .pointer (some _), .pointer none => if d matches .pointer _ then some false else none
  | .nilFunc, .func _ _ _ => if d matches .func _ _ _ then some false else none
  | .func _ _ _, .nilFunc => if d matches .func _ _ _ then some false else none
  | .nilFunc, .nilFunc => if d matches .func _ _ _ then some true else none
  | _, _ => none
def opBin (cx : Ctx) (op : BinOp) (t : TypeId) (ox oy : Operand) (x y : Value) : Option Value := do
  if plain x && plain y then pureV cx.P (do eqGuard op t ox oy x y; binOp op t x y)
  else do
    let i ← ty cx t
    match op with
    | .eql => do
      let b ← (eqNil i.desc x y)
      some (.bool b)
    | .neq => do
      let b ← (eqNil i.desc x y)
      some (.bool !b)
    | _ => none
def newsOf (cx : Ctx) (σ : St) (size : Nat) (z : Value) : TypeDesc → Value → Option (Nat × List Value)
  | .slice _, .slice none m _ => cond (Nat.beq m 0) (some (0, [])) none
  | .slice _, .slice (some a) m _ => cond (Nat.beq m 0) (some (0, [])) ((loadCells cx σ a (m * size)).bind fun cs => some (m, cs))
  | .int .i64, x => (natOf x 1000000).bind fun m => some (m, zeros z.cells.toList m)
  | _, _ => none
def grown (σ : St) (elem : TypeId) (size n : Nat) (cells : List Value) : Option Res :=
  some (.val (.slice (some ⟨σ.next, 0, none⟩) n (capBase + σ.nextC))
      { next := σ.next + 1, nextC := σ.nextC + 1, mem := σ.mem.set σ.next (some (.own (.opn cells elem size σ.nextC))), caps := σ.caps.set σ.nextC (some n), low := σ.low })
def appNone (σ : St) (elem : TypeId) (size len cap : Nat) (s : Value) (m : Nat) (news : List Value) : Option Res :=
  cond (Nat.beq len 0 && Nat.beq cap 0) (cond (Nat.beq m 0) (some (.val s σ)) (grown σ elem size m news)) none
def appKnown (cx : Ctx) (σ : St) (elem : TypeId) (size : Nat) (a : Addr) (len cap : Nat) (s : Value) (m : Nat) (news : List Value) : Option Res :=
  cond (Nat.ble (len + m) cap)
    (cond (Nat.beq m 0) (some (.val s σ)) ((storeCells cx σ (a.add (len * size)) news).bind fun σ' => some (.val (.slice (some a) (len + m) cap) σ')))
    ((loadCells cx σ a (len * size)).bind fun olds => grown σ elem size (len + m) (olds ++ news))
def goneFrom (σ : St) (i : Nat) : St := { σ with mem := σ.mem.set i none, low := min σ.low i }
def appOpen (cx : Ctx) (σ : St) (elem : TypeId) (size : Nat) (a : Addr) (len cap m : Nat) (news : List Value) : Option Res :=
  match look cx σ a.block with
  | some (.opn cs e size' c) =>
    cond (Nat.beq a.off 0 && a.spot.isNone && Nat.beq e elem && Nat.beq size' size && Nat.beq (capBase + c) cap && Nat.ble (len * size) cs.length && (σ.caps.get c).isSome)
      (grown (goneFrom σ a.block) elem size (len + m) (cs.take (len * size) ++ news)) none
  | _ => none
def appAny (cx : Ctx) (σ : St) (elem : TypeId) (size : Nat) (base : Option Addr) (len cap : Nat) (s : Value) (m : Nat) (news : List Value) : Option Res :=
  match base with
  | none => appNone σ elem size len cap s m news
  | some a => cond (Nat.blt cap capBase) (appKnown cx σ elem size a len cap s m news) (appOpen cx σ elem size a len cap m news)
def appElem (cx : Ctx) (σ : St) (elem : TypeId) (ei xi : TI) (z : Value) (base : Option Addr) (len cap : Nat) (s x : Value) : Option Res :=
  cond (Nat.blt 0 ei.size && Nat.ble ei.bytes 1000000 && Nat.beq z.cells.size ei.size)
    ((newsOf cx σ ei.size z xi.desc x).bind fun (m, news) => cond (news.all (·.oneCell') && Nat.ble (len + m) 1000000) (appAny cx σ elem ei.size base len cap s m news) none) none
def opAppend (cx : Ctx) (σ : St) (t xt : TypeId) (s x : Value) : Option Res := do
  let i ← ty cx t
  match i.desc, s with
  | .slice elem, .slice base len cap =>
    let ei ← ty cx elem
    let xi ← ty cx xt
    let z ← ei.zero
    appElem cx σ elem ei xi z base len cap s x
  | _, _ => none
def opCopy (cx : Ctx) (σ : St) (t : TypeId) (d x : Value) : Option Res := do
  let i ← ty cx t
  match i.desc, d with
  | .slice elem, .slice base dLen _ =>
    let ei ← ty cx elem
    match x with
    | .slice none m _ => do
      guard' (Nat.beq m 0)
      some (.val (goInt 0) σ)
    | .slice (some a) m _ =>
      let n := Nat.min m dLen
      let cs ← loadCells cx σ a (n * ei.size)
      match base with
      | none => some (.val (goInt n) σ)
      | some b =>
        let σ ← storeCells cx σ b cs
        some (.val (goInt n) σ)
    | _ => none
  | _, _ => none
def opLen (cx : Ctx) (t : TypeId) (x : Value) : Option Value := do
  let i ← ty cx t
  match i.desc, x with
  | .string, .string s => some (goInt s.size)
  | .array n _, _ => some (goInt n)
  | .slice _, .slice _ n _ => some (goInt n)
  | _, _ => none
def callLen (cx : Ctx) (σ : St) : List TypeId → List Value → Option Res
  | t :: _, x :: _ => val σ (opLen cx t x)
  | _, _ => none
def opCap (d : TypeDesc) (x : Value) : Option Value :=
  match d, x with
  | .slice _, .slice _ _ n => cond (Nat.blt n capBase) (some (goInt n)) none
  | _, _ => none
def callCap (cx : Ctx) (σ : St) : List TypeId → List Value → Option Res
  | t :: _, x :: _ => (ty cx t).bind fun i => val σ (opCap i.desc x)
  | _, _ => none
def callAppend (cx : Ctx) (σ : St) : List TypeId → List Value → Option Res
  | t :: xt :: _, s :: x :: _ => opAppend cx σ t xt s x
  | _, _ => none
def callCopy (cx : Ctx) (σ : St) : List TypeId → List Value → Option Res
  | t :: _, d :: x :: _ => opCopy cx σ t d x
  | _, _ => none
def isMinMax : Builtin → Bool
  | .max | .min => true
  | _ => false
def constArgs (c : Call) : Array Bool := c.args.map fun | .const _ => true | _ => false
def callMinMax (cx : Ctx) (σ : St) (b : Builtin) (c : Call) (type : TypeId) (args : List Value) : Option Res :=
  cond (isMinMax b && args.all plain) (val σ (pureN cx.P (builtin b c.argTypes type (constArgs c) args.toArray))) none
def callFn (cx : Ctx) (σ : St) (f : FuncId) (all : List Value) (fn : Func) : Option Res :=
  match fn.body with
  | some _ => some (.enter f all)
  | none => cond (all.all plain) (val σ (pureN cx.P (callFunc f all.toArray))) none
def callValue (cx : Ctx) (σ : St) (args : List Value) : Value → Option Res
  | .func (.func f) first captured => (cx.fn.get f).bind (callFn cx σ f (first.toList ++ args ++ captured.toList))
  | _ => none
def opCall (cx : Ctx) (a : Fr) (σ : St) (c : Call) (type : TypeId) : Option Res :=
  match c.callee with
  | .builtin .len => callLen cx σ c.argTypes.toList (c.args.toList.map a.eval)
  | .builtin .cap => callCap cx σ c.argTypes.toList (c.args.toList.map a.eval)
  | .builtin .append => callAppend cx σ c.argTypes.toList (c.args.toList.map a.eval)
  | .builtin .copy => callCopy cx σ c.argTypes.toList (c.args.toList.map a.eval)
  | .builtin b => callMinMax cx σ b c type (c.args.toList.map a.eval)
  | .value f => callValue cx σ (c.args.toList.map a.eval) (a.eval f)
  | _ => none
def opPick (σ : St) : Value → Value → Value → Option Res
  | .bool b, x, y => some (.val (cond b x y) σ)
  | _, _, _ => none
def opAlloc (cx : Ctx) (σ : St) (e : TypeId) : Option Res := do
  let i ← ty cx e
  let z ← i.zero
  let (σ, ad) ← newRow σ e z.cells.toList
  some (.val (.pointer (some ad)) σ)
def opBox (σ : St) (e : TypeId) (x : Value) : Option Res := do
  let (σ, ad) ← newRow σ e x.cells.toList
  some (.val (.pointer (some ad)) σ)
def opLoad (cx : Ctx) (σ : St) (t : TypeId) (x : Value) : Option Res := do
  let ad ← addrOf x
  let v ← loadVar cx σ t ad
  some (.val v σ)
def opStore (cx : Ctx) (σ : St) (t : TypeId) (x y : Value) : Option Res := do
  let ad ← addrOf x
  let σ ← storeVar cx σ t ad y
  some (.val undef σ)
def opNilCheck (σ : St) : Value → Option Res
  | .pointer (some ad) => some (.val (.pointer (some ad)) σ)
  | .func (.func f) x y => some (.val (.func (.func f) x y) σ)
  | .slice b n c => some (.val (.slice b n c) σ)
  | _ => none
def opUn (cx : Ctx) (σ : St) (op : UnOp) (x : Value) : Option Res := do
  guard' (plain x)
  val σ (pureV cx.P (Op.unary op x))
def opConv (cx : Ctx) (σ : St) (s d : TypeId) (x : Value) : Option Res := do
  guard' (plain x)
  val σ (pureV cx.P (convert s d x))
def opExtract (σ : St) (k : Nat) : Value → Option Res
  | .tuple vs => val σ vs.toList[k]?
  | _ => none
def evs (a : Fr) (ps : Array (Nat × Operand)) : List (Nat × Value) := ps.toList.map fun p => (p.1, a.eval p.2)
def symOp (cx : Ctx) (a : Fr) (σ : St) (o : Oper) : Option Res :=
  match o.op with
  | .move x | .assign x => some (.val (a.eval x) σ)
  | .pick c x y => opPick σ (a.eval c) (a.eval x) (a.eval y)
  | .alloc e => opAlloc cx σ e
  | .box e x => opBox σ e (a.eval x)
  | .build t ps => val σ (opBuild cx t (evs a ps))
  | .buildSlice t n ps => opBuildSlice cx σ t n (evs a ps)
  | .load t x => opLoad cx σ t (a.eval x)
  | .store t x y => opStore cx σ t (a.eval x) (a.eval y)
  | .nilCheck x => opNilCheck σ (a.eval x)
  | .binOp op t x y _ => val σ (opBin cx op t x y (a.eval x) (a.eval y))
  | .unOp op _ x => opUn cx σ op (a.eval x)
  | .convert s d x => opConv cx σ s d (a.eval x)
  | .makeFunc fn first captured => some (.val (.func fn (first.map a.eval) (captured.map a.eval)) σ)
  | .makeSlice t l c => opMakeSlice cx σ t (a.eval l) (a.eval c)
  | .slice t x lo hi mx => opSlice cx σ t (a.eval x) (lo.map a.eval) (hi.map a.eval) (mx.map a.eval)
  | .fieldAddr t x k => val σ (opFieldAddr cx t (a.eval x) k)
  | .field t x k => val σ (opField cx t (a.eval x) k)
  | .indexAddr t x ix => val σ (opIndexAddr cx t (a.eval x) (a.eval ix))
  | .index t x ix => val σ (opIndex cx t (a.eval x) (a.eval ix))
  | .extract x k => opExtract σ k (a.eval x)
  | .call c => opCall cx a σ c o.type
  | _ => none
inductive SExit where
  | normal
  | exit (id : Nat)
  | ret
  deriving DecidableEq, Inhabited
structure Out where
  ex : SExit
  a : Fr
  σ : St
  deriving Inhabited
inductive FP where
  | part (rs ws : List Nat) (makes : Bool)
  | all (wrote : Bool)
  deriving Inhabited
inductive Task where
  | code (c : Code)
  | again (c : Code)
  | ops (draw : Bool) (all : Array Oper) (i : Nat) (fs : List (Nat × FP)) (l : List Oper)
  | call (f : FuncId) (args : List Value)
def yieldedS (ops : Array Oper) (a : Fr) (j : Nat) : Option Bool :=
  match (ops.toList[j]?).bind (·.dst) with
  | some d => match a.eval (.tmp d) with
    | .bool b => some b
    | _ => none
  | none => none
def wantedS (ops : Array Oper) (a : Fr) (o : Oper) : Bool :=
  match o.guard with
  | none => true
  | some (j, want) => match yieldedS ops a j with
    | some b => b == want
    | none => false
def frameOf (n : Nat) (args : List Value) : Fr :=
  { n, t := (args.foldl (fun (s : Nat × Tr Value) v => (s.1 + 1, s.2.put deep s.1 (some v))) (0, .leaf)).2 }
def resOne (cx : Ctx) (a : Fr) (σ : St) : ResultVar → Option Value
  | .tmp t => some (a.eval (.tmp t))
  | .cell x t => (addrOf (a.eval (.tmp x))).bind fun ad => loadVar cx σ t ad
def resultsOf (cx : Ctx) (fn : Func) (a : Fr) (σ : St) : Option (List Value) := fn.results.toList.mapM (resOne cx a σ)
abbrev Rec := Task → Fr → St → Option Out
def eqA (a b : Addr) : Bool := Nat.beq a.block b.block && Nat.beq a.off b.off && a.spot.isNone && b.spot.isNone
def eqO : Option Addr → Option Addr → Bool
  | none, none => true
  | some a, some b => eqA a b
  | _, _ => false
mutual
def eqV : Value → Value → Bool
  | .bool a, .bool b => a == b
  | .int k a, .int l b => decide (k = l) && decide (a = b)
  | .string a, .string b => decide (a.data.toList = b.data.toList)
  | .pointer a, .pointer b => eqO a b
  | .slice a m c, .slice b n d => eqO a b && Nat.beq m n && Nat.beq c d
  | .nilFunc, .nilFunc => true
  | .nilIface, .nilIface => true
  | .agg a, .agg b => eqVA a b
  | .tuple a, .tuple b => eqVA a b
  | _, _ => false
def eqVA : Array Value → Array Value → Bool
  | ⟨a⟩, ⟨b⟩ => eqVL a b
def eqVL : List Value → List Value → Bool
  | [], [] => true
  | a :: x, b :: y => eqV a b && eqVL x y
  | _, _ => false
end
def eqObj : SObj → SObj → Bool
  | .row a e, .row b f => Nat.beq e f && eqVL a b
  | .opn a e s c, .opn b f t d => Nat.beq e f && Nat.beq s t && Nat.beq c d && eqVL a b
  | .ro a, .ro b => eqVL a b
  | _, _ => false
def holdsRow (cx : Ctx) (σ : St) (i k : Nat) : Option St :=
  match σ.mem.get i with
  | some (.ref l) => cond (Nat.beq k l) (some σ) none
  | some (.own o) => match cx.rows.get k with
    | some p => cond (eqObj o p) (some { σ with mem := σ.mem.set i (some (.ref k)) }) none
    | none => none
  | none => none
def holdRows (cx : Ctx) : List (Nat × Nat) → St → Option St
  | [], σ => some σ
  | (i, k) :: r, σ => (holdsRow cx σ i k).bind (holdRows cx r)
def holdCaps : List (Nat × Nat) → St → Bool
  | [], _ => true
  | (c, lo) :: r, σ => (match σ.caps.get c with
    | some l => Nat.ble lo l
    | none => false) && holdCaps r σ
def meets (cx : Ctx) (args : List Value) (σ : St) (e : Known) : Option (Value × St) :=
  cond (eqVL args e.args && holdCaps e.caps σ) ((holdRows cx e.rows σ).bind fun σ => some (e.val, σ)) none
def meetsAny (cx : Ctx) (args : List Value) (σ : St) : List Known → Option (Value × St)
  | [] => none
  | e :: r => match meets cx args σ e with
    | some x => some x
    | none => meetsAny cx args σ r
def known (cx : Ctx) (f : FuncId) (args : List Value) (σ : St) : Option (Value × St) :=
  match cx.known.get f with
  | some l => meetsAny cx args σ l
  | none => none
def opTmps (o : Oper) : List Tmp := o.op.operands.toList.filterMap fun | .tmp t => some t | _ => none
def sameDst (a b : Oper) : Bool :=
  match a.dst, b.dst with
  | some x, some y => Nat.beq x y
  | _, _ => false
def usesDst (a b : Oper) : Bool :=
  match a.dst with
  | some x => (opTmps b).any (Nat.beq x)
  | none => false
def pairOk (m i : Nat) (a b : Oper) : Bool := !sameDst a b && ((!usesDst a b && !usesDst b a) || m.testBit i)
def pairsOk (m : Nat) (b : Oper) : Nat → List Oper → Bool
  | _, [] => true
  | i, a :: r => pairOk m i a b && pairsOk m b (i + 1) r
def operOk (ops : Array Oper) (j : Nat) (o : Oper) : Bool :=
  let m := (Region.before ops).getD j 0
  (o.after.toList.all fun e => !Region.binds .any e || Nat.blt e.on j) &&
  (match o.guard with
   | some (g, _) => m.testBit g && Nat.blt g j
   | none => true) &&
  pairsOk m o 0 (ops.toList.take j)
def opersOk (ops : Array Oper) : Nat → List Oper → Bool
  | _, [] => true
  | j, o :: r => operOk ops j o && opersOk ops (j + 1) r
def operandOk (g : Nat) : Operand → Bool
  | .const v => plain v
  | .global i => Nat.blt i g
  | _ => true
def operOk' (g : Nat) (o : Oper) : Bool := o.op.operands.toList.all (operandOk g)
def codeOk (g : Nat) : Code → Bool
  | .region _ ops draw => ops.toList.all (operOk' g) && (!draw || opersOk ops 0 ops.toList)
  | .seq x y => codeOk g x && codeOk g y
  | .cond c x y => operandOk g c && codeOk g x && codeOk g y
  | .block _ x => codeOk g x
  | .loop x => codeOk g x
  | _ => true
def bodyOk (g : Nat) (fn : Func) : Bool :=
  Nat.ble fn.ntmps 1000000 && !(fn.name == "runtime.NumGoroutine") &&
  match fn.body with
  | some c => codeOk g c
  | none => true
def stepSeq (rc : Rec) (y : Code) (r : Out) : Option Out :=
  match r.ex with
  | .normal => rc (.code y) r.a r.σ
  | _ => some r
def stepBlock (id : Nat) (r : Out) : Option Out :=
  match r.ex with
  | .exit j => some (cond (Nat.beq j id) ⟨.normal, r.a, r.σ⟩ r)
  | _ => some r
def stepCond (rc : Rec) (x y : Code) (a : Fr) (σ : St) : Value → Option Out
  | .bool b => rc (.code (cond b x y)) a σ
  | _ => none
def stepAgain (rc : Rec) (x : Code) (r : Out) : Option Out :=
  match r.ex with
  | .normal => rc (.again x) r.a r.σ
  | _ => some r
def stepCode (rc : Rec) (c : Code) (a : Fr) (σ : St) : Option Out :=
  match c with
  | .skip => some ⟨.normal, a, σ⟩
  | .region _ ops draw => rc (.ops draw ops 0 [] ops.toList) a σ
  | .seq x y => (rc (.code x) a σ).bind (stepSeq rc y)
  | .cond c x y => stepCond rc x y a σ (a.eval c)
  | .block id x => (rc (.code x) a σ).bind (stepBlock id)
  | .loop x => rc (.again x) a σ
  | .exit id => some ⟨.exit id, a, σ⟩
  | .ret => some ⟨.ret, a, σ⟩
  | _ => none
def backFrom (σ : St) (r : Out) : Option (Value × St) :=
  match r.a.t.get 0 with
  | some v => some (cond (plain v && Nat.ble σ.next r.σ.low) (v, σ) (v, { r.σ with low := min σ.low r.σ.low }))
  | none => none
def stepOper (cx : Ctx) (rc : Rec) (a : Fr) (σ : St) : Option Res → Option (Value × St)
  | some (.val v σ') => some (v, σ')
  | some (.enter f args) => match known cx f args σ with
    | some x => some x
    | none => (rc (.call f args) a { σ with low := σ.next }).bind (backFrom σ)
  | none => none
def meet (x y : List Nat) : Bool := x.any fun i => y.any fun j => Nat.beq i j
def FP.conflict : FP → FP → Bool
  | .part r w _, .part r' w' _ => meet w r' || meet w w' || meet r w'
  | .part r w m, .all x | .all x, .part r w m => !w.isEmpty || (x && (!r.isEmpty || m))
  | .all x, .all y => x || y
def isFree : Op → Bool
  | .move _ | .assign _ | .pick .. | .build .. | .nilCheck _ | .binOp .. | .unOp .. | .convert .. | .makeFunc .. | .slice .. | .fieldAddr .. | .field .. | .indexAddr .. | .index .. | .extract .. => true
  | .call { callee := .builtin .len, .. } => true
  | _ => false
def isMake : Op → Bool
  | .alloc _ | .box .. | .buildSlice .. | .makeSlice .. => true
  | _ => false
def blockOf : Value → List Nat
  | .pointer (some a) | .slice (some a) _ _ => [a.block]
  | _ => []
def fpOf (a : Fr) (next low : Nat) (o : Oper) : FP :=
  match o.op with
  | .load _ x => .part (blockOf (a.eval x)) [] false
  | .store _ x _ => .part [] (blockOf (a.eval x)) false
  | .call { callee := .builtin .append, args, .. } =>
    match args.toList with
    | s :: x :: _ => .part (blockOf (a.eval s) ++ blockOf (a.eval x)) (cond (Nat.blt low next) (blockOf (a.eval s)) []) true
    | _ => .all true
  | .call { callee := .builtin .copy, args, .. } =>
    match args.toList with
    | d :: x :: _ => .part (blockOf (a.eval x)) (blockOf (a.eval d)) false
    | _ => .all true
  | op => cond (isFree op) (.part [] [] false) (cond (isMake op) (.part [] [] true) (.all (Nat.blt low next)))
def fits (all : Array Oper) (i : Nat) (fp : FP) : List (Nat × FP) → Bool
  | [] => true
  | (j, g) :: r => (!(fp.conflict g) || ((Region.before all).getD i 0).testBit j) && fits all i fp r
def keepFp (i : Nat) (fp : FP) (fs : List (Nat × FP)) : List (Nat × FP) :=
  match fp with
  | .part [] [] false => fs
  | _ => (i, fp) :: fs
def stepDraw (all : Array Oper) (i : Nat) (o : Oper) (a : Fr) (σ : St) (fs : List (Nat × FP)) (x : Value × St) : Option (Value × St × List (Nat × FP)) :=
  let fp := fpOf a σ.next x.2.low o
  cond (fits all i fp fs) (some (x.1, { x.2 with low := min σ.low x.2.low }, keepFp i fp fs)) none
def stepFps (x : Value × St) : Option (Value × St × List (Nat × FP)) := some (x.1, x.2, [])
def stepOps (cx : Ctx) (rc : Rec) (draw : Bool) (all : Array Oper) (i : Nat) (fs : List (Nat × FP)) (l : List Oper) (a : Fr) (σ : St) : Option Out :=
  match l with
  | [] => some ⟨.normal, a, σ⟩
  | o :: rest =>
    match wantedS all a o with
    | true => match cond draw ((stepOper cx rc a { σ with low := σ.next } (symOp cx a { σ with low := σ.next } o)).bind (stepDraw all i o a σ fs)) ((stepOper cx rc a σ (symOp cx a σ o)).bind stepFps) with
      | some (v, σ', fs') => rc (.ops draw all (i + 1) fs' rest) (a.put o.dst v) σ'
      | none => none
    | false => rc (.ops draw all (i + 1) fs rest) (a.put o.dst undef) σ
def wrapUp (vs : List Value) : Value :=
  match vs with
  | [v] => v
  | vs => .tuple vs.toArray
def stepRet (cx : Ctx) (fn : Func) (r : Out) : Option Out :=
  match r.ex with
  | .exit _ => none
  | _ => (resultsOf cx fn r.a r.σ).bind fun vs => some ⟨.ret, ⟨1, .node .leaf (some (wrapUp vs)) .leaf⟩, r.σ⟩
def stepBody (cx : Ctx) (rc : Rec) (fn : Func) (args : List Value) (σ : St) : Option Code → Option Out
  | some c => cond (Nat.ble args.length fn.ntmps) ((rc (.code c) (frameOf fn.ntmps args) σ).bind (stepRet cx fn)) none
  | none => none
def stepCall (cx : Ctx) (rc : Rec) (args : List Value) (σ : St) : Option Func → Option Out
  | some fn => stepBody cx rc fn args σ fn.body
  | none => none
def stepTask (cx : Ctx) (rc : Rec) (t : Task) (a : Fr) (σ : St) : Option Out :=
  match t with
  | .code c => stepCode rc c a σ
  | .again x => (rc (.code x) a σ).bind (stepAgain rc x)
  | .ops draw all i fs l => stepOps cx rc draw all i fs l a σ
  | .call f args => stepCall cx rc args σ (cx.fn.get f)
def run (cx : Ctx) : Nat → Rec
  | 0 => fun _ _ _ => none
  | k + 1 => stepTask cx (run cx k)
end
end Go.Sym
namespace Go.Sym
open Go
theorem cond_beq {α : Type} (a b : Nat) (x y : α) : cond (Nat.beq a b) x y = if a = b then x else y := by
  by_cases h : a = b
  · rw [if_pos h, h]
    simp
  · rw [if_neg h]
    have : Nat.beq a b = false := by
      cases e : Nat.beq a b
      · rfl
      · exact absurd (Nat.eq_of_beq_eq_true e) h
    rw [this]
    rfl
theorem Tr.get_leaf {α : Type} (n : Nat) : (Tr.leaf : Tr α).get n = none := rfl
theorem half_odd {m : Nat} (h : m % 2 = 0) : (m + 1) % 2 = 1 ∧ (m + 1) / 2 = m / 2 := by omega
theorem half_even {m : Nat} (h : ¬ m % 2 = 0) : ¬ (m + 1) % 2 = 1 ∧ (m + 1) / 2 - 1 = m / 2 := by omega
theorem rec_beq {α : Type} (a b : Nat) (x y : α) : (Bool.rec y x (Nat.beq a b) : α) = if a = b then x else y := by
  rw [← cond_beq]
  cases Nat.beq a b <;> rfl
theorem Tr.get_node {α : Type} (l r : Tr α) (v : Option α) (n : Nat) : (Tr.node l v r).get n = if n = 0 then v else if n % 2 = 1 then l.get (n / 2) else r.get (n / 2 - 1) := by
  cases n with
  | zero => rfl
  | succ m =>
    rw [if_neg (Nat.succ_ne_zero m)]
    show (Bool.rec (r.get (m / 2)) (l.get (m / 2)) (Nat.beq (m % 2) 0) : Option α) = _
    rw [rec_beq]
    by_cases h : m % 2 = 0
    · rw [if_pos h, if_pos (half_odd h).1, (half_odd h).2]
    · rw [if_neg h, if_neg (half_even h).1, (half_even h).2]
theorem Tr.get_one {α : Type} (x : Option α) : ∀ (f n m : Nat), n + 1 < 2 ^ f → (Tr.one x f n).get m = if m = n then x else none
  | 0, _, _, h => by simp at h
  | f + 1, n, m, h => by
    have hp : 2 ^ (f + 1) = 2 * 2 ^ f := by rw [Nat.pow_succ, Nat.mul_comm]
    cases n with
    | zero =>
      show (Tr.node .leaf x .leaf).get m = _
      rw [Tr.get_node]
      simp only [Tr.get_leaf]
      by_cases hm : m = 0 <;> simp [hm]
    | succ k =>
      have ih := Tr.get_one x f (k / 2)
      have e : Tr.one x (f + 1) (k + 1) = if k % 2 = 0 then Tr.node (Tr.one x f (k / 2)) none .leaf else Tr.node .leaf none (Tr.one x f (k / 2)) := by
        show (Bool.rec (Tr.node .leaf none (Tr.one x f (k / 2))) (Tr.node (Tr.one x f (k / 2)) none .leaf) (Nat.beq (k % 2) 0) : Tr α) = _
        rw [rec_beq]
      rw [e]
      by_cases h1 : k % 2 = 0
      · rw [if_pos h1, Tr.get_node]
        by_cases hm : m = 0
        · rw [if_pos hm, if_neg (by omega)]
        · rw [if_neg hm]
          by_cases hm1 : m % 2 = 1
          · rw [if_pos hm1, ih _ (by omega)]
            by_cases e : m = k + 1
            · rw [if_pos e, if_pos (by omega)]
            · rw [if_neg e, if_neg (by omega)]
          · rw [if_neg hm1, Tr.get_leaf, if_neg (by omega)]
      · rw [if_neg h1, Tr.get_node]
        by_cases hm : m = 0
        · rw [if_pos hm, if_neg (by omega)]
        · rw [if_neg hm]
          by_cases hm1 : m % 2 = 1
          · rw [if_pos hm1, Tr.get_leaf, if_neg (by omega)]
          · rw [if_neg hm1, ih _ (by omega)]
            by_cases e : m = k + 1
            · rw [if_pos e, if_pos (by omega)]
            · rw [if_neg e, if_neg (by omega)]
theorem Tr.get_put {α : Type} (f : Nat) : ∀ (t : Tr α) (n : Nat) (x : Option α) (m : Nat), n + 1 < 2 ^ f → (Tr.put f t n x).get m = if m = n then x else t.get m
  | .leaf, n, x, m, h => by
    show (Tr.one x f n).get m = _
    rw [Tr.get_one x f n m h, Tr.get_leaf]
  | .node l v r, n, x, m, h => by
    cases n with
    | zero =>
      show (Tr.node l x r).get m = _
      rw [Tr.get_node, Tr.get_node]
      by_cases hm : m = 0 <;> simp [hm]
    | succ k =>
      have e : Tr.put f (.node l v r) (k + 1) x = if k % 2 = 0 then Tr.node (Tr.put f l (k / 2) x) v r else Tr.node l v (Tr.put f r (k / 2) x) := by
        show (Bool.rec (Tr.node l v (Tr.put f r (k / 2) x)) (Tr.node (Tr.put f l (k / 2) x) v r) (Nat.beq (k % 2) 0) : Tr α) = _
        rw [rec_beq]
      have il := Tr.get_put f l (k / 2) x
      have ir := Tr.get_put f r (k / 2) x
      rw [e]
      by_cases h1 : k % 2 = 0
      · rw [if_pos h1, Tr.get_node, Tr.get_node]
        by_cases hm : m = 0
        · rw [if_pos hm, if_pos hm, if_neg (by omega)]
        · rw [if_neg hm, if_neg hm]
          by_cases hm1 : m % 2 = 1
          · rw [if_pos hm1, if_pos hm1, il _ (by omega)]
            by_cases e : m = k + 1
            · rw [if_pos e, if_pos (by omega)]
            · rw [if_neg e, if_neg (by omega)]
          · rw [if_neg hm1, if_neg hm1, if_neg (by omega)]
      · rw [if_neg h1, Tr.get_node, Tr.get_node]
        by_cases hm : m = 0
        · rw [if_pos hm, if_pos hm, if_neg (by omega)]
        · rw [if_neg hm, if_neg hm]
          by_cases hm1 : m % 2 = 1
          · rw [if_pos hm1, if_pos hm1, if_neg (by omega)]
          · rw [if_neg hm1, if_neg hm1, ir _ (by omega)]
            by_cases e : m = k + 1
            · rw [if_pos e, if_pos (by omega)]
            · rw [if_neg e, if_neg (by omega)]
theorem Tr.get_set {α : Type} (t : Tr α) (n : Nat) (x : Option α) (m : Nat) : (t.set n x).get m = if m = n then x else t.get m := by
  refine Tr.get_put (n + 2) t n x m ?_
  have := Nat.lt_two_pow_self (n := n + 2)
  omega
structure Env where
  blk : Nat → Option Nat
  cap : Nat → Option Nat
def Env.b (η : Env) (i : Nat) : Nat := (η.blk i).getD 0
def Env.c (η : Env) (i : Nat) : Nat := (η.cap i).getD 0
def renA (η : Env) (a : Addr) : Addr := { a with block := η.b a.block }
def renC (η : Env) (c : Nat) : Nat := if c < capBase then c else η.c (c - capBase)
mutual
def ren (η : Env) : Value → Value
  | .bool b => .bool b
  | .int k n => .int k n
  | .float k b => .float k b
  | .complex k a b => .complex k a b
  | .string s => .string s
  | .pointer a => .pointer (a.map (renA η))
  | .slice a n c => .slice (a.map (renA η)) n (renC η c)
  | .map r => .map (r.map η.b)
  | .chan r => .chan (r.map η.b)
  | .func fn x y => .func fn (renArr η x) (renArr η y)
  | .nilFunc => .nilFunc
  | .iface t v => .iface t (ren η v)
  | .nilIface => .nilIface
  | .agg cs => .agg (renArr η cs)
  | .tuple cs => .tuple (renArr η cs)
def renArr (η : Env) : Array Value → Array Value
  | ⟨l⟩ => ⟨renL η l⟩
def renL (η : Env) : List Value → List Value
  | [] => []
  | v :: r => ren η v :: renL η r
end
theorem renL_eq (η : Env) : ∀ l, renL η l = l.map (ren η)
  | [] => rfl
  | v :: r => by simp [renL, renL_eq η r]
theorem renArr_eq (η : Env) : ∀ a : Array Value, renArr η a = a.map (ren η)
  | ⟨l⟩ => by simp [renArr, renL_eq]
mutual
def ok (η : Env) : Value → Prop
  | .pointer a => ∀ x, a = some x → (η.blk x.block).isSome
  | .slice a _ k => (∀ x, a = some x → (η.blk x.block).isSome) ∧ (k < capBase ∨ (η.cap (k - capBase)).isSome)
  | .map r => ∀ x, r = some x → (η.blk x).isSome
  | .chan r => ∀ x, r = some x → (η.blk x).isSome
  | .func _ x y => okA η x ∧ okA η y
  | .iface _ v => ok η v
  | .agg cs => okA η cs
  | .tuple cs => okA η cs
  | _ => True
def okA (η : Env) : Array Value → Prop
  | ⟨l⟩ => okL η l
def okL (η : Env) : List Value → Prop
  | [] => True
  | v :: r => ok η v ∧ okL η r
end
theorem okL_iff {η : Env} : ∀ l, okL η l ↔ ∀ v ∈ l, ok η v
  | [] => by simp [okL]
  | v :: r => by simp [okL, okL_iff r]
theorem okA_iff {η : Env} : ∀ a : Array Value, okA η a ↔ ∀ v ∈ a.toList, ok η v
  | ⟨l⟩ => by simp [okA, okL_iff]
structure Ext (η η' : Env) : Prop where
  blk : ∀ i b, η.blk i = some b → η'.blk i = some b
  cap : ∀ i b, η.cap i = some b → η'.cap i = some b
theorem Ext.refl (η : Env) : Ext η η := ⟨fun _ _ h => h, fun _ _ h => h⟩
theorem Ext.trans {η η' η'' : Env} (h : Ext η η') (k : Ext η' η'') : Ext η η'' := ⟨fun i b e => k.blk i b (h.blk i b e), fun i b e => k.cap i b (h.cap i b e)⟩
theorem Ext.isSomeB {η η' : Env} (h : Ext η η') {i : Nat} (e : (η.blk i).isSome) : (η'.blk i).isSome := by
  obtain ⟨b, hb⟩ := Option.isSome_iff_exists.1 e
  rw [h.blk i b hb]; rfl
theorem Ext.isSomeC {η η' : Env} (h : Ext η η') {i : Nat} (e : (η.cap i).isSome) : (η'.cap i).isSome := by
  obtain ⟨b, hb⟩ := Option.isSome_iff_exists.1 e
  rw [h.cap i b hb]; rfl
theorem Ext.b {η η' : Env} (h : Ext η η') {i : Nat} (e : (η.blk i).isSome) : η'.b i = η.b i := by
  obtain ⟨b, hb⟩ := Option.isSome_iff_exists.1 e
  unfold Env.b
  rw [h.blk i b hb, hb]
theorem Ext.c {η η' : Env} (h : Ext η η') {i : Nat} (e : (η.cap i).isSome) : η'.c i = η.c i := by
  obtain ⟨b, hb⟩ := Option.isSome_iff_exists.1 e
  unfold Env.c
  rw [h.cap i b hb, hb]
section
variable {η η' : Env} (h : Ext η η')
include h
theorem renA_ext {a : Addr} (e : (η.blk a.block).isSome) : renA η' a = renA η a := by
  unfold renA
  rw [h.b e]
theorem renC_ext {k : Nat} (e : k < capBase ∨ (η.cap (k - capBase)).isSome) : renC η' k = renC η k := by
  unfold renC
  split
  · rfl
  · exact h.c (e.resolve_left (by assumption))
mutual
theorem ok_ext : ∀ v, ok η v → ok η' v
  | .pointer a, e => by
    simp only [ok] at e ⊢
    exact fun x hx => h.isSomeB (e x hx)
  | .slice a m k, e => by
    simp only [ok] at e ⊢
    exact ⟨fun x hx => h.isSomeB (e.1 x hx), e.2.imp id h.isSomeC⟩
  | .map r, e => by
    simp only [ok] at e ⊢
    exact fun x hx => h.isSomeB (e x hx)
  | .chan r, e => by
    simp only [ok] at e ⊢
    exact fun x hx => h.isSomeB (e x hx)
  | .func _ x y, e => by
    simp only [ok] at e ⊢
    exact ⟨okA_ext x e.1, okA_ext y e.2⟩
  | .iface t v, e => by
    simp only [ok] at e ⊢
    exact ok_ext v e
  | .agg cs, e => by
    simp only [ok] at e ⊢
    exact okA_ext cs e
  | .tuple cs, e => by
    simp only [ok] at e ⊢
    exact okA_ext cs e
  | .bool _, _ | .int _ _, _ | .float _ _, _ | .complex _ _ _, _ | .string _, _ | .nilFunc, _ | .nilIface, _ => by simp [ok]
theorem okA_ext : ∀ a, okA η a → okA η' a
  | ⟨l⟩, e => by
    simp only [okA] at e ⊢
    exact okL_ext l e
theorem okL_ext : ∀ l, okL η l → okL η' l
  | [], _ => by simp [okL]
  | v :: r, e => by
    simp only [okL] at e ⊢
    exact ⟨ok_ext v e.1, okL_ext r e.2⟩
end
mutual
theorem ren_ext : ∀ v, ok η v → ren η' v = ren η v
  | .pointer a, e => by
    simp only [ok] at e
    cases a with
    | none => rfl
    | some a => simp only [ren, Option.map_some, renA_ext h (e a rfl)]
  | .slice a m k, e => by
    simp only [ok] at e
    simp only [ren, renC_ext h e.2]
    cases a with
    | none => rfl
    | some a => simp only [Option.map_some, renA_ext h (e.1 a rfl)]
  | .map r, e => by
    simp only [ok] at e
    cases r with
    | none => rfl
    | some r => simp only [ren, Option.map_some, h.b (e r rfl)]
  | .chan r, e => by
    simp only [ok] at e
    cases r with
    | none => rfl
    | some r => simp only [ren, Option.map_some, h.b (e r rfl)]
  | .func fn x y, e => by
    simp only [ok] at e
    simp only [ren, renArr_ext x e.1, renArr_ext y e.2]
  | .iface t v, e => by
    simp only [ok] at e
    simp only [ren, ren_ext v e]
  | .agg cs, e => by
    simp only [ok] at e
    simp only [ren, renArr_ext cs e]
  | .tuple cs, e => by
    simp only [ok] at e
    simp only [ren, renArr_ext cs e]
  | .bool _, _ | .int _ _, _ | .float _ _, _ | .complex _ _ _, _ | .string _, _ | .nilFunc, _ | .nilIface, _ => rfl
theorem renArr_ext : ∀ a, okA η a → renArr η' a = renArr η a
  | ⟨l⟩, e => by
    simp only [okA] at e
    simp only [renArr, renL_ext l e]
theorem renL_ext : ∀ l, okL η l → renL η' l = renL η l
  | [], _ => rfl
  | v :: r, e => by
    simp only [okL] at e
    simp only [renL, ren_ext v e.1, renL_ext r e.2]
end
end
mutual
theorem plain_ok (η : Env) : ∀ v, plain v = true → ok η v
  | .bool _, _ | .int _ _, _ | .float _ _, _ | .complex _ _ _, _ | .string _, _ | .nilFunc, _ | .nilIface, _ => by simp [ok]
  | .pointer a, h => by cases a <;> simp [plain] at h; simp [ok]
  | .slice a n c, h => by
    simp only [plain, Bool.and_eq_true, decide_eq_true_eq] at h
    cases a <;> simp at h
    simp [ok, h]
  | .map r, h => by cases r <;> simp [plain] at h; simp [ok]
  | .chan r, h => by cases r <;> simp [plain] at h; simp [ok]
  | .func fn x y, h => by
    simp only [plain, Bool.and_eq_true] at h
    simp only [ok]
    exact ⟨plainA_ok η x h.1, plainA_ok η y h.2⟩
  | .iface t v, h => by
    simp only [plain] at h
    simp only [ok]
    exact plain_ok η v h
  | .agg cs, h => by
    simp only [plain] at h
    simp only [ok]
    exact plainA_ok η cs h
  | .tuple cs, h => by
    simp only [plain] at h
    simp only [ok]
    exact plainA_ok η cs h
theorem plainA_ok (η : Env) : ∀ a, plainA a = true → okA η a
  | ⟨l⟩, h => by
    simp only [plainA] at h
    simp only [okA]
    exact plainL_ok η l h
theorem plainL_ok (η : Env) : ∀ l, plainL l = true → okL η l
  | [], _ => by simp [okL]
  | v :: r, h => by
    simp only [plainL, Bool.and_eq_true] at h
    simp only [okL]
    exact ⟨plain_ok η v h.1, plainL_ok η r h.2⟩
end
mutual
theorem ren_plain (η : Env) : ∀ v, plain v = true → ren η v = v
  | .bool _, _ | .int _ _, _ | .float _ _, _ | .complex _ _ _, _ | .string _, _ | .nilFunc, _ | .nilIface, _ => rfl
  | .pointer a, h => by cases a <;> simp [plain] at h; rfl
  | .slice a n c, h => by
    simp only [plain, Bool.and_eq_true, decide_eq_true_eq] at h
    cases a <;> simp at h
    simp [ren, renC, h]
  | .map r, h => by cases r <;> simp [plain] at h; rfl
  | .chan r, h => by cases r <;> simp [plain] at h; rfl
  | .func fn x y, h => by
    simp only [plain, Bool.and_eq_true] at h
    simp only [ren, renArr_plain η x h.1, renArr_plain η y h.2]
  | .iface t v, h => by
    simp only [plain] at h
    simp only [ren, ren_plain η v h]
  | .agg cs, h => by
    simp only [plain] at h
    simp only [ren, renArr_plain η cs h]
  | .tuple cs, h => by
    simp only [plain] at h
    simp only [ren, renArr_plain η cs h]
theorem renArr_plain (η : Env) : ∀ a, plainA a = true → renArr η a = a
  | ⟨l⟩, h => by
    simp only [plainA] at h
    simp only [renArr, renL_plain η l h]
theorem renL_plain (η : Env) : ∀ l, plainL l = true → renL η l = l
  | [], _ => rfl
  | v :: r, h => by
    simp only [plainL, Bool.and_eq_true] at h
    simp only [renL, ren_plain η v h.1, renL_plain η r h.2]
end
theorem ren_cells (η : Env) (v : Value) : (ren η v).cells = v.cells.map (ren η) := by
  cases v <;> simp [ren, Value.cells, renArr_eq]
theorem ren_oneCell (η : Env) (v : Value) : (ren η v).oneCell' = v.oneCell' := by
  cases v <;> rfl
theorem ok_cells {η : Env} {v : Value} (h : ok η v) : ∀ x ∈ v.cells.toList, ok η x := by
  cases v with
  | agg cs => exact (okA_iff cs).1 (by simpa [ok] using h)
  | tuple cs => simpa [Value.cells] using h
  | _ => simpa [Value.cells] using h
end Go.Sym
namespace Go.Sym
open Go
noncomputable section
def SObj.isRo : SObj → Bool
  | .ro _ => true
  | _ => false
def SObj.den (η : Env) (w : World) (b : Nat) : SObj → Prop
  | .row cs e => w.heap[b]? = some (.cells (cs.map (ren η)).toArray e (0, 0))
  | .opn cs e size k => ∃ cur, w.heap[b]? = some (.cells cur e (0, 0)) ∧ cur.size = η.c k * size ∧ cur.toList.take cs.length = cs.map (ren η) ∧ cs.length ≤ cur.size ∧ (η.cap k).isSome
  | .ro cs => b < w.heap.size ∧ ∀ (j : Nat) v, cs[j]? = some v → w.cell? ⟨b, j, none⟩ = some (ren η v)
structure Vw where
  M : Nat → Option SObj
  C : Nat → Option Nat
  next : Nat
  nextC : Nat
  low : Nat
def vw (cx : Ctx) (σ : St) : Vw := ⟨look cx σ, σ.caps.get, σ.next, σ.nextC, σ.low⟩
structure WF (v : Vw) : Prop where
  lt : ∀ i o, v.M i = some o → i < v.next
  caps : ∀ i lo, v.C i = some lo → i < v.nextC
structure Den (P : Program) (D : Nat → Prop) (v : Vw) (η : Env) (w : World) : Prop where
  glob : ∀ g, g < P.globals.size → η.blk g = some g
  obj : ∀ i o b, D i → v.M i = some o → η.blk i = some b → (∀ x ∈ o.cells, ok η x) ∧ o.den η w b
  inj : ∀ i j o p b, D i → D j → v.M i = some o → v.M j = some p → η.blk i = some b → η.blk j = some b → i = j
  caps : ∀ k lo c, v.C k = some lo → η.cap k = some c → lo ≤ c ∧ c < capBase
  dom : ∀ i, v.next ≤ i → η.blk i = none
  domC : ∀ i, v.nextC ≤ i → η.cap i = none
def Every : Nat → Prop := fun _ => True
def coarse (v v' : Vw) (i : Nat) : Prop := v'.low ≤ i ∧ ∃ o, v.M i = some o ∧ o.isRo = false
structure Kept (v : Vw) (η : Env) (w : World) (v' : Vw) (η' : Env) (w' : World) (W : Nat → Prop) : Prop where
  ext : Ext η η'
  only : ∀ i, i < v.next ∨ v'.next ≤ i → η'.blk i = η.blk i
  onlyC : ∀ i, i < v.nextC ∨ v'.nextC ≤ i → η'.cap i = η.cap i
  next : v.next ≤ v'.next
  nextC : v.nextC ≤ v'.nextC
  low : v'.low ≤ v.low
  wlow : ∀ i, W i → v'.low ≤ i
  live : ∀ i, W i → ∃ o, v.M i = some o ∧ o.isRo = false
  os : w'.os = w.os
  tape : w'.tape = w.tape
  output : w'.output = w.output
  size : w.heap.size ≤ w'.heap.size
  frame : ∀ k, k < w.heap.size → (∀ i, W i → η.blk i ≠ some k) → w'.heap[k]? = w.heap[k]?
  same : ∀ i, i < v.next → ¬ W i → v'.M i = v.M i
  sameC : ∀ i, i < v.nextC → v'.C i = v.C i
  orig : ∀ i o b, v'.M i = some o → η'.blk i = some b → w.heap.size ≤ b ∨ ∃ j p, v.M j = some p ∧ η.blk j = some b ∧ p.isRo = o.isRo ∧ (i = j ∨ W j)
theorem coarse_iff {v v' : Vw} {i : Nat} : coarse v v' i ↔ v'.low ≤ i ∧ ∃ o, v.M i = some o ∧ o.isRo = false := Iff.rfl
theorem Kept.refl (v : Vw) (η : Env) (w : World) : Kept v η w v η w (fun _ => False) :=
  ⟨Ext.refl η, fun _ _ => rfl, fun _ _ => rfl, Nat.le_refl _, Nat.le_refl _, Nat.le_refl _, fun _ h => h.elim, fun _ h => h.elim, rfl, rfl, rfl, Nat.le_refl _, fun _ _ _ => rfl, fun _ _ _ => rfl, fun _ _ => rfl,
    fun i o _ h e => .inr ⟨i, o, h, e, rfl, .inl rfl⟩⟩
theorem Kept.coarse {v v' : Vw} {η η' : Env} {w w' : World} {W : Nat → Prop} (h : Kept v η w v' η' w' W) : Kept v η w v' η' w' (coarse v v') :=
  have hW : ∀ i, W i → Sym.coarse v v' i := fun i hi => ⟨h.wlow i hi, h.live i hi⟩
  { h with
    wlow := fun _ hi => hi.1
    live := fun _ hi => hi.2
    frame := fun k hk hn => h.frame k hk fun i hi => hn i (hW i hi)
    same := fun i hi hn => h.same i hi fun hw => hn (hW i hw)
    orig := fun i o b hi e => (h.orig i o b hi e).imp id fun ⟨j, p, h1, h2, h3, h4⟩ => ⟨j, p, h1, h2, h3, h4.imp id (hW j)⟩ }
theorem Kept.lower {v v' : Vw} {η η' : Env} {w w' : World} {W : Nat → Prop} (h : Kept v η w v' η' w' W) (a b : Nat) (hb : b ≤ a) (hb' : b ≤ v'.low) :
    Kept { v with low := a } η w { v' with low := b } η' w' W :=
  { ext := h.ext, only := h.only, onlyC := h.onlyC, next := h.next, nextC := h.nextC, low := hb, wlow := fun i hi => Nat.le_trans hb' (h.wlow i hi), live := h.live,
    os := h.os, tape := h.tape, output := h.output, size := h.size, frame := h.frame, same := h.same, sameC := h.sameC, orig := h.orig }
theorem Kept.trans {v v' v'' : Vw} {η η' η'' : Env} {w w' w'' : World} {W W' : Nat → Prop} (h : Kept v η w v' η' w' W) (k : Kept v' η' w' v'' η'' w'' W') :
    Kept v η w v'' η'' w'' (Sym.coarse v v'') where
  ext := h.ext.trans k.ext
  only := fun i hi => by
    have h1 := h.next
    have h2 := k.next
    rw [k.only i (by omega), h.only i (by omega)]
  onlyC := fun i hi => by
    have h1 := h.nextC
    have h2 := k.nextC
    rw [k.onlyC i (by omega), h.onlyC i (by omega)]
  next := Nat.le_trans h.next k.next
  nextC := Nat.le_trans h.nextC k.nextC
  low := Nat.le_trans k.low h.low
  wlow := fun _ hi => hi.1
  live := fun _ hi => hi.2
  os := k.os.trans h.os
  tape := k.tape.trans h.tape
  output := k.output.trans h.output
  size := Nat.le_trans h.size k.size
  frame := fun b hb hn => by
    have hl := k.low
    rw [k.frame b (Nat.lt_of_lt_of_le hb h.size) ?_, h.frame b hb ?_]
    · exact fun i hi => hn i ⟨Nat.le_trans hl (h.wlow i hi), h.live i hi⟩
    · intro j hj e
      obtain ⟨p, hp, hro⟩ := k.live j hj
      rcases h.orig j p b hp e with h1 | ⟨j', p', h1, h2, h3, h4⟩
      · omega
      · refine hn j' ⟨?_, p', h1, h3.trans hro⟩ h2
        rcases h4 with rfl | h4
        · exact k.wlow _ hj
        · exact Nat.le_trans hl (h.wlow _ h4)
  same := fun i hi hn => by
    have hx := h.next
    have hl := k.low
    have h1 : ¬ W i := fun hw => hn ⟨Nat.le_trans hl (h.wlow i hw), h.live i hw⟩
    have h2 : ¬ W' i := fun hw => by
      obtain ⟨p, hp, hro⟩ := k.live i hw
      rw [h.same i hi h1] at hp
      exact hn ⟨k.wlow i hw, p, hp, hro⟩
    rw [k.same i (by omega) h2, h.same i hi h1]
  sameC := fun i hi => by
    have hx := h.nextC
    rw [k.sameC i (by omega), h.sameC i hi]
  orig := fun i o b hi e => by
    have hl := k.low
    rcases k.orig i o b hi e with h1 | ⟨j, p, h1, h2, h3, h4⟩
    · exact .inl (Nat.le_trans h.size h1)
    · rcases h.orig j p b h1 h2 with h5 | ⟨j', p', h5, h6, h7, h8⟩
      · exact .inl h5
      · refine .inr ⟨j', p', h5, h6, h7.trans h3, ?_⟩
        by_cases hij : i = j'
        · exact .inl hij
        · refine .inr ⟨?_, p', h5, ?_⟩
          · rcases h8 with rfl | h8
            · rcases h4 with rfl | h4
              · exact absurd rfl hij
              · exact k.wlow _ h4
            · exact Nat.le_trans hl (h.wlow _ h8)
          · rcases h8 with rfl | h8
            · rcases h4 with rfl | h4
              · exact absurd rfl hij
              · obtain ⟨q, hq, hro⟩ := k.live _ h4
                rw [h1] at hq
                injection hq with hq
                rw [h7, hq, hro]
            · obtain ⟨q, hq, hro⟩ := h.live _ h8
              rw [h5] at hq
              injection hq with hq
              rw [hq, hro]
theorem SObj.den_lt {η : Env} {w : World} {o : SObj} {b : Nat} (h : o.den η w b) : b < w.heap.size := by
  cases o with
  | row cs e => exact (Array.getElem?_eq_some_iff.1 h).1
  | opn cs e s k => obtain ⟨_, h, _⟩ := h; exact (Array.getElem?_eq_some_iff.1 h).1
  | ro cs => exact h.1
theorem SObj.den_keep {η η' : Env} {w w' : World} {o : SObj} {b : Nat} (he : Ext η η') (hc : ∀ x ∈ o.cells, ok η x) (hb : w'.heap[b]? = w.heap[b]?) (h : o.den η w b) : o.den η' w' b := by
  have hm : ∀ cs : List Value, (∀ x ∈ cs, ok η x) → cs.map (ren η') = cs.map (ren η) := fun cs hcs => List.map_congr_left fun x hx => ren_ext he x (hcs x hx)
  cases o with
  | row cs e =>
    simp only [SObj.den] at h ⊢
    rw [hb, h, hm cs hc]
  | opn cs e s k =>
    obtain ⟨cur, h1, h2, h3, h4, h5⟩ := h
    exact ⟨cur, by rw [hb, h1], by rw [h2, he.c h5], by rw [h3, hm cs hc], h4, he.isSomeC h5⟩
  | ro cs =>
    have hlt : b < w'.heap.size := by
      have : (w'.heap[b]?).isSome := by rw [hb]; simp [h.1]
      by_cases hl : b < w'.heap.size
      · exact hl
      · simp [hl] at this
    refine ⟨hlt, fun j v hv => ?_⟩
    rw [ren_ext he v (hc v (List.mem_of_getElem? hv)), ← h.2 j v hv]
    unfold World.cell?
    rw [hb]
theorem Den.grow {P : Program} {D : Nat → Prop} {v : Vw} {η : Env} {w w' : World} (h : Den P D v η w) (hw : ∀ k, k < w.heap.size → w'.heap[k]? = w.heap[k]?) : Den P D v η w' :=
  { h with
    obj := fun i o b hD hi e => by
      have := h.obj i o b hD hi e
      exact ⟨this.1, SObj.den_keep (Ext.refl η) this.1 (hw b (SObj.den_lt this.2)) this.2⟩ }
theorem Den.sub {P : Program} {D D' : Nat → Prop} {v : Vw} {η : Env} {w : World} (h : Den P D v η w) (hs : ∀ i, D' i → D i) : Den P D' v η w :=
  { h with
    obj := fun i o b hD hi e => h.obj i o b (hs i hD) hi e
    inj := fun i j o p b hi hj => h.inj i j o p b (hs i hi) (hs j hj) }
theorem Den.of_kept {P : Program} {D D' : Nat → Prop} {v v' : Vw} {η η' : Env} {w w' : World} {W : Nat → Prop} (h : Den P D v η w) (k : Kept v η w v' η' w' W)
    (hWD : ∀ i, W i → D i) (hD : ∀ i, D' i → D i ∨ v.next ≤ i)
    (hobj : ∀ i o b, D' i → (W i ∨ v.next ≤ i) → v'.M i = some o → η'.blk i = some b → (∀ x ∈ o.cells, ok η' x) ∧ o.den η' w' b)
    (hinj : ∀ i j o p b, (W i ∨ v.next ≤ i) → (W j ∨ v.next ≤ j) → v'.M i = some o → v'.M j = some p → η'.blk i = some b → η'.blk j = some b → i = j)
    (hnew : ∀ i j o p b, (W i ∨ v.next ≤ i) → ¬ W j → j < v.next → D j → v'.M i = some o → v.M j = some p → η'.blk i = some b → η.blk j = some b → i = j)
    (hcaps : ∀ c lo n, v.nextC ≤ c → v'.C c = some lo → η'.cap c = some n → lo ≤ n ∧ n < capBase)
    (hdom : ∀ i, v'.next ≤ i → η'.blk i = none) (hdomC : ∀ i, v'.nextC ≤ i → η'.cap i = none) : Den P D' v' η' w' where
  glob := fun g hg => k.ext.blk _ _ (h.glob g hg)
  obj := fun i o b hDi hi e => by
    by_cases hc : W i ∨ v.next ≤ i
    · exact hobj i o b hDi hc hi e
    · have hW : ¬ W i := fun x => hc (.inl x)
      have hlt : i < v.next := Nat.lt_of_not_le fun x => hc (.inr x)
      rw [k.same i hlt hW] at hi
      rw [k.only i (.inl hlt)] at e
      have hDD : D i := (hD i hDi).resolve_right (Nat.not_le.2 hlt)
      have ho := h.obj i o b hDD hi e
      refine ⟨fun x hx => ok_ext k.ext x (ho.1 x hx), SObj.den_keep k.ext ho.1 (k.frame b (SObj.den_lt ho.2) fun j hj ej => ?_) ho.2⟩
      obtain ⟨p, hp, _⟩ := k.live j hj
      exact hW (h.inj i j o p b hDD (hWD j hj) hi hp e ej ▸ hj)
  inj := fun i j o p b hDi hDj hi hj ei ej => by
    by_cases hci : W i ∨ v.next ≤ i <;> by_cases hcj : W j ∨ v.next ≤ j
    · exact hinj i j o p b hci hcj hi hj ei ej
    · have hW : ¬ W j := fun x => hcj (.inl x)
      have hlt : j < v.next := Nat.lt_of_not_le fun x => hcj (.inr x)
      rw [k.same j hlt hW] at hj
      rw [k.only j (.inl hlt)] at ej
      exact hnew i j o p b hci hW hlt ((hD j hDj).resolve_right (Nat.not_le.2 hlt)) hi hj ei ej
    · have hW : ¬ W i := fun x => hci (.inl x)
      have hlt : i < v.next := Nat.lt_of_not_le fun x => hci (.inr x)
      rw [k.same i hlt hW] at hi
      rw [k.only i (.inl hlt)] at ei
      exact (hnew j i p o b hcj hW hlt ((hD i hDi).resolve_right (Nat.not_le.2 hlt)) hj hi ej ei).symm
    · have hWi : ¬ W i := fun x => hci (.inl x)
      have hlti : i < v.next := Nat.lt_of_not_le fun x => hci (.inr x)
      have hWj : ¬ W j := fun x => hcj (.inl x)
      have hltj : j < v.next := Nat.lt_of_not_le fun x => hcj (.inr x)
      rw [k.same i hlti hWi] at hi
      rw [k.only i (.inl hlti)] at ei
      rw [k.same j hltj hWj] at hj
      rw [k.only j (.inl hltj)] at ej
      exact h.inj i j o p b ((hD i hDi).resolve_right (Nat.not_le.2 hlti)) ((hD j hDj).resolve_right (Nat.not_le.2 hltj)) hi hj ei ej
  caps := fun c lo n hc e => by
    by_cases hlt : c < v.nextC
    · rw [k.sameC c hlt] at hc
      rw [k.onlyC c (.inl hlt)] at e
      exact h.caps c lo n hc e
    · exact hcaps c lo n (Nat.le_of_not_lt hlt) hc e
  dom := hdom
  domC := hdomC
end
end Go.Sym
namespace Go.Sym
open Go
noncomputable section
theorem look_put {cx : Ctx} {σ σ' : St} {i : Nat} {o : SObj} (hm : σ'.mem = σ.mem.set i (some (.own o))) (j : Nat) :
    look cx σ' j = if j = i then some o else look cx σ j := by
  unfold look
  rw [hm, Tr.get_set]
  by_cases e : j = i
  · simp [e, refOf]
  · simp [e]
theorem look_gone {cx : Ctx} {σ σ' : St} {i : Nat} (hm : σ'.mem = σ.mem.set i none) (j : Nat) :
    look cx σ' j = if j = i then none else look cx σ j := by
  unfold look
  rw [hm, Tr.get_set]
  by_cases e : j = i
  · simp [e]
  · simp [e]
theorem guard'_some {b : Bool} {u : Unit} (h : guard' b = some u) : b = true := by
  unfold guard' at h
  split at h
  · assumption
  · cases h
theorem loadCells_inv {cx : Ctx} {σ : St} {a : Addr} {n : Nat} {cs : List Value} (hl : loadCells cx σ a n = some cs) :
    a.spot = none ∧ ∃ o, look cx σ a.block = some o ∧ a.off + n ≤ o.cells.length ∧ cs = (o.cells.drop a.off).take n := by
  simp only [loadCells, Option.bind_eq_bind, Option.bind_eq_some_iff] at hl
  obtain ⟨_, hs, o, ho, _, hb, hc⟩ := hl
  have hs := guard'_some hs
  have hb := guard'_some hb
  refine ⟨by cases ha : a.spot with | none => rfl | some _ => simp [ha] at hs, o, ho, Nat.le_of_ble_eq_true hb, ?_⟩
  injection hc with hc
  exact hc.symm
theorem blk_of_isSome {η : Env} {i : Nat} (h : (η.blk i).isSome) : η.blk i = some (η.b i) := by
  obtain ⟨b, hb⟩ := Option.isSome_iff_exists.1 h
  unfold Env.b
  rw [hb]; rfl
theorem renA_add {η : Env} {a : Addr} (j : Nat) (h : a.spot = none) : (renA η a).add j = ⟨η.b a.block, a.off + j, none⟩ := by
  unfold renA Addr.add
  split
  · simp_all
  · rfl
section
variable {cx : Ctx} {D : Nat → Prop} {σ : St} {η : Env} {w : World}
theorem SObj.den_cell {o : SObj} {b : Nat} (h : o.den η w b) {j : Nat} {v : Value} (hv : o.cells[j]? = some v) : w.cell? ⟨b, j, none⟩ = some (ren η v) := by
  cases o with
  | row cs e =>
    simp only [SObj.den] at h
    simp only [SObj.cells] at hv
    simp [World.cell?, h, hv]
  | opn cs e s k =>
    obtain ⟨cur, h1, _, h3, _, _⟩ := h
    simp only [SObj.cells] at hv
    have hj : j < cs.length := (List.getElem?_eq_some_iff.1 hv).1
    have h4 : (cur.toList.take cs.length)[j]? = some (ren η v) := by rw [h3, List.getElem?_map, hv]; rfl
    rw [List.getElem?_take_of_lt hj] at h4
    simpa [World.cell?, h1] using h4
  | ro cs => exact h.2 j v hv
theorem loadCells_sound (h : Den cx.P D (vw cx σ) η w) {a : Addr} {n : Nat} {cs : List Value} (ha : (η.blk a.block).isSome) (hD : D a.block) (hl : loadCells cx σ a n = some cs) :
    cs.length = n ∧ (∀ v ∈ cs, ok η v) ∧ (∀ j v, (cs.map (ren η))[j]? = some v → w.cell? ((renA η a).add j) = some v) ∧
      (Go.loadCells (renA η a) n).run cx.P w = .ok (cs.map (ren η)).toArray w := by
  obtain ⟨hs, o, ho, hb, rfl⟩ := loadCells_inv hl
  have hd := h.obj _ _ _ hD ho (blk_of_isSome ha)
  have hlen : ((o.cells.drop a.off).take n).length = n := by rw [List.length_take, List.length_drop]; omega
  have hcell : ∀ j v, (((o.cells.drop a.off).take n).map (ren η))[j]? = some v → w.cell? ((renA η a).add j) = some v := by
    intro j v hj
    rw [List.getElem?_map, Option.map_eq_some_iff] at hj
    obtain ⟨u, hu, rfl⟩ := hj
    rw [renA_add j hs]
    refine SObj.den_cell hd.2 ?_
    have hjn : j < n := by have := (List.getElem?_eq_some_iff.1 hu).1; omega
    rw [List.getElem?_take_of_lt hjn, List.getElem?_drop] at hu
    exact hu
  refine ⟨hlen, fun v hv => hd.1 v (List.mem_of_mem_drop (List.mem_of_mem_take hv)), hcell, ?_⟩
  have := run_loadCells_list (P := cx.P) w (renA η a) (((o.cells.drop a.off).take n).map (ren η)) hcell
  rwa [List.length_map, hlen] at this
theorem take_splice (l : List Value) (o : Nat) (vs : List Value) (h : o + vs.length ≤ l.length) : (splice l o vs).length = l.length := by
  unfold splice
  simp
  omega
theorem take_splice' (cur pre vs : List Value) (n o : Nat) (h : cur.take n = pre) (hl : o + vs.length ≤ n) (hn : n ≤ cur.length) :
    (cur.take o ++ vs ++ cur.drop (o + vs.length)).take n = pre.take o ++ vs ++ pre.drop (o + vs.length) := by
  subst h
  have hA : (cur.take o ++ vs).length = o + vs.length := by
    rw [List.length_append, List.length_take, Nat.min_eq_left (by omega)]
  rw [List.take_append, hA, List.take_of_length_le (by rw [hA]; omega), List.take_take, Nat.min_eq_left (by omega), List.drop_take]
theorem mem_splice {l : List Value} {o : Nat} {vs : List Value} {x : Value} (h : x ∈ splice l o vs) : x ∈ l ∨ x ∈ vs := by
  unfold splice at h
  simp only [List.mem_append] at h
  rcases h with (h | h) | h
  · exact .inl (List.mem_of_mem_take h)
  · exact .inr h
  · exact .inl (List.mem_of_mem_drop h)
theorem store_kept (hwf : WF (vw cx σ)) (hd : Den cx.P D (vw cx σ) η w) {i b : Nat} {o p : SObj} (hi : look cx σ i = some o) (hb : η.blk i = some b) (hro : o.isRo = false) (hrp : p.isRo = false) (hDi : D i)
    {cs : Array Value}
    (hok : ∀ x ∈ p.cells, ok η x) (hden : p.den η (w.setRow b cs) b) :
    WF (vw cx (σ.set i p)) ∧ Kept (vw cx σ) η w (vw cx (σ.set i p)) η (w.setRow b cs) (· = i) ∧ Den cx.P (fun j => D j ∨ σ.next ≤ j) (vw cx (σ.set i p)) η (w.setRow b cs) := by
  have hlt : i < σ.next := hwf.lt i o hi
  have hl : ∀ j, look cx (σ.set i p) j = if j = i then some p else look cx σ j := fun j => look_put rfl j
  have hk : Kept (vw cx σ) η w (vw cx (σ.set i p)) η (w.setRow b cs) (· = i) :=
    { ext := Ext.refl η, only := fun _ _ => rfl, onlyC := fun _ _ => rfl, next := Nat.le_refl _, nextC := Nat.le_refl _, low := Nat.min_le_left _ _,
      wlow := fun j hj => by subst hj; exact Nat.min_le_right _ _
      live := fun j hj => by subst hj; exact ⟨o, hi, hro⟩
      os := rfl, tape := rfl, output := rfl, size := by simp
      frame := fun k _ hn => setRow_other w b k cs fun e => hn i rfl (by rw [hb, e])
      same := fun j _ hj => by
        show look cx (σ.set i p) j = look cx σ j
        rw [hl, if_neg hj]
      sameC := fun _ _ => rfl
      orig := fun j q c hj hc => by
        change look cx (σ.set i p) j = some q at hj
        rw [hl] at hj
        by_cases e : j = i
        · subst e
          rw [if_pos rfl] at hj
          injection hj with hj
          subst hj
          exact .inr ⟨j, o, hi, hc, by rw [hro, hrp], .inl rfl⟩
        · rw [if_neg e] at hj
          exact .inr ⟨j, q, hj, hc, rfl, .inl rfl⟩ }
  refine ⟨⟨fun j q hj => ?_, hwf.caps⟩, hk, ?_⟩
  · change look cx (σ.set i p) j = some q at hj
    rw [hl] at hj
    by_cases e : j = i
    · subst e; exact hlt
    · rw [if_neg e] at hj
      exact hwf.lt j q hj
  · refine hd.of_kept hk (fun j hj => by subst hj; exact hDi) (fun j hj => hj) ?_ ?_ ?_ ?_ hd.dom hd.domC
    · intro j q c _ hj hq hc
      rcases hj with rfl | hj
      · change look cx (σ.set j p) j = some q at hq
        rw [hl, if_pos rfl] at hq
        injection hq with hq
        subst hq
        rw [hb] at hc
        injection hc with hc
        subst hc
        exact ⟨hok, hden⟩
      · rw [hd.dom j hj] at hc
        cases hc
    · intro j k q r c hj hk' hq hr ej ek
      rcases hj with rfl | hj
      · rcases hk' with rfl | hk'
        · rfl
        · rw [hd.dom k hk'] at ek; cases ek
      · rw [hd.dom j hj] at ej; cases ej
    · intro j k q r c hj _ hklt hDk _ hr ej ek
      rcases hj with rfl | hj
      · exact hd.inj j k o r c hDi hDk hi hr (by rw [← ej]) ek
      · rw [hd.dom j hj] at ej; cases ej
    · intro c lo n hc _ e
      rw [hd.domC c hc] at e
      cases e
theorem storeCells_sound (hwf : WF (vw cx σ)) (hd : Den cx.P D (vw cx σ) η w) {a : Addr} {vs : List Value} {σ' : St} (ha : (η.blk a.block).isSome) (hD : D a.block) (hv : ∀ x ∈ vs, ok η x)
    (hs : storeCells cx σ a vs = some σ') :
    ∃ w', (Go.storeCells (renA η a) (vs.map (ren η))).run cx.P w = .ok () w' ∧ σ'.next = σ.next ∧ σ'.nextC = σ.nextC ∧
      WF (vw cx σ') ∧ Kept (vw cx σ) η w (vw cx σ') η w' (· = a.block) ∧ Den cx.P (fun j => D j ∨ σ.next ≤ j) (vw cx σ') η w' := by
  simp only [storeCells, Option.bind_eq_bind, Option.bind_eq_some_iff] at hs
  obtain ⟨_, h1, _, h2, hs⟩ := hs
  have h1 := guard'_some h1
  have h2 := guard'_some h2
  have hspot : a.spot = none := by cases ha : a.spot with | none => rfl | some _ => simp [ha] at h1
  have hone : ∀ v ∈ vs.map (ren η), v.oneCell' = true := by
    intro v hv'
    obtain ⟨u, hu, rfl⟩ := List.mem_map.1 hv'
    rw [ren_oneCell]
    exact List.all_eq_true.1 h2 u hu
  have hren : renA η a = ⟨η.b a.block, a.off, none⟩ := by unfold renA; rw [hspot]
  have hblk := blk_of_isSome ha
  cases ho : look cx σ a.block with
  | none => simp [ho] at hs
  | some o =>
    simp only [ho] at hs
    have hdo := hd.obj _ _ _ hD ho hblk
    cases o with
    | ro cs => simp at hs
    | row cs e =>
      simp only [Option.bind_eq_some_iff] at hs
      obtain ⟨_, hb, hs⟩ := hs
      have hb := Nat.le_of_ble_eq_true (guard'_some hb)
      injection hs with hs
      subst hs
      have hheap : w.heap[η.b a.block]? = some (.cells (cs.map (ren η)).toArray e (0, 0)) := hdo.2
      have hst := run_storeCells_at cx.P (η.b a.block) a.off e (vs.map (ren η)) 0 _ w hheap (by simpa using hb) hone
      rw [← hren] at hst
      refine ⟨_, hst, rfl, rfl, store_kept hwf hd ho hblk rfl rfl hD ?_ ?_⟩
      · intro x hx
        rcases mem_splice hx with h | h
        · exact hdo.1 x h
        · exact hv x h
      · show _ = _
        rw [setRow_heap w _ _ _ _ _ hheap]
        simp [splice, List.map_take, List.map_drop]
    | opn cs e s k =>
      simp only [Option.bind_eq_some_iff] at hs
      obtain ⟨_, hb, hs⟩ := hs
      have hb := Nat.le_of_ble_eq_true (guard'_some hb)
      injection hs with hs
      subst hs
      obtain ⟨cur, hheap, hsz, htk, hle, hcap⟩ := hdo.2
      have hst := run_storeCells_at cx.P (η.b a.block) a.off e (vs.map (ren η)) 0 _ w hheap (by simp; omega) hone
      rw [← hren] at hst
      refine ⟨_, hst, rfl, rfl, store_kept hwf hd ho hblk rfl rfl hD ?_ ?_⟩
      · intro x hx
        rcases mem_splice hx with h | h
        · exact hdo.1 x h
        · exact hv x h
      · refine ⟨_, setRow_heap w _ _ _ _ _ hheap, ?_, ?_, ?_, hcap⟩
        · simp
          have hl : cur.toList.length = cur.size := by simp
          omega
        · rw [take_splice cs a.off vs hb]
          have := take_splice' cur.toList (cs.map (ren η)) (vs.map (ren η)) cs.length a.off htk (by simpa using hb) (by simpa using hle)
          simpa [splice, List.map_take, List.map_drop] using this
        · rw [take_splice cs a.off vs hb]
          simp
          have hl : cur.toList.length = cur.size := by simp
          omega
def Env.put (η : Env) (i b : Nat) : Env := { η with blk := fun j => if j = i then some b else η.blk j }
def Env.putC (η : Env) (i c : Nat) : Env := { η with cap := fun j => if j = i then some c else η.cap j }
theorem Env.put_ext {η : Env} {i b : Nat} (h : η.blk i = none) : Ext η (η.put i b) :=
  ⟨fun j c hj => by
    show (if j = i then some b else η.blk j) = some c
    rw [if_neg (by intro e; subst e; rw [h] at hj; cases hj), hj], fun _ _ h => h⟩
theorem Env.putC_ext {η : Env} {i c : Nat} (h : η.cap i = none) : Ext η (η.putC i c) :=
  ⟨fun _ _ h => h, fun j c' hj => by
    show (if j = i then some c else η.cap j) = some c'
    rw [if_neg (by intro e; subst e; rw [h] at hj; cases hj), hj]⟩
theorem heap_alloc_lt {w : World} {o : Obj} {k : Nat} (h : k < w.heap.size) : (w.alloc o).heap[k]? = w.heap[k]? := by
  show (w.heap.push o)[k]? = w.heap[k]?
  simp only [Array.getElem?_push]
  rw [if_neg (by omega)]
theorem heap_alloc_new {w : World} {o : Obj} : (w.alloc o).heap[w.heap.size]? = some o := by
  show (w.heap.push o)[w.heap.size]? = some o
  simp
theorem new_kept (hwf : WF (vw cx σ)) (hd : Den cx.P D (vw cx σ) η w) {σ' : St} {o : SObj} {w' : World} {η' : Env} {G : Nat → Prop} [DecidablePred G]
    (hl : ∀ j, look cx σ' j = if j = σ.next then some o else if G j then none else look cx σ j) (hG : ∀ j, G j → (∃ p, look cx σ j = some p ∧ p.isRo = false) ∧ D j)
    (hn : σ'.next = σ.next + 1) (hlow : σ'.low ≤ σ.low ∧ ∀ j, G j → σ'.low ≤ j)
    (hos : w'.os = w.os) (htape : w'.tape = w.tape) (hout : w'.output = w.output) (hsz : w.heap.size ≤ w'.heap.size) (hheap : ∀ k, k < w.heap.size → w'.heap[k]? = w.heap[k]?)
    (hE : ∀ j, η'.blk j = if j = σ.next then some w.heap.size else η.blk j) (hro : o.isRo = false)
    (hnc : σ.nextC ≤ σ'.nextC) (hcs : ∀ k, k < σ.nextC → σ'.caps.get k = σ.caps.get k) (hce : ∀ k, k < σ.nextC ∨ σ'.nextC ≤ k → η'.cap k = η.cap k)
    (hcl : ∀ k lo, σ'.caps.get k = some lo → k < σ'.nextC)
    (hcn : ∀ k lo c, σ.nextC ≤ k → σ'.caps.get k = some lo → η'.cap k = some c → lo ≤ c ∧ c < capBase)
    (hcells : ∀ x ∈ o.cells, ok η' x) (hden : o.den η' w' w.heap.size) :
    WF (vw cx σ') ∧ Kept (vw cx σ) η w (vw cx σ') η' w' G ∧ Den cx.P (fun j => D j ∨ σ.next ≤ j) (vw cx σ') η' w' := by
  have hn0 : η.blk σ.next = none := hd.dom σ.next (Nat.le_refl σ.next)
  have hGlt : ∀ j, G j → j < σ.next := fun j hj => by
    obtain ⟨⟨p, hp, _⟩, _⟩ := hG j hj
    exact hwf.lt j p hp
  have hext : Ext η η' := by
    refine ⟨fun j c hj => ?_, fun j c hj => ?_⟩
    · rw [hE, if_neg (by intro e; subst e; rw [hn0] at hj; cases hj), hj]
    · by_cases h : j < σ.nextC ∨ σ'.nextC ≤ j
      · rw [hce j h, hj]
      · rw [hd.domC j (show σ.nextC ≤ j by omega)] at hj
        cases hj
  have hk : Kept (vw cx σ) η w (vw cx σ') η' w' G :=
    { ext := hext
      only := fun j hj => by
        rw [hE, if_neg]
        intro e
        change j < σ.next ∨ σ'.next ≤ j at hj
        omega
      onlyC := hce
      next := by show σ.next ≤ σ'.next; omega
      nextC := hnc
      low := hlow.1
      wlow := hlow.2, live := fun j hj => (hG j hj).1, os := hos, tape := htape, output := hout, size := hsz
      frame := fun k hk _ => hheap k hk
      same := fun j hj hg => by
        show look cx σ' j = look cx σ j
        change j < σ.next at hj
        rw [hl, if_neg (by omega), if_neg hg]
      sameC := hcs
      orig := fun j q c hj hc => by
        change look cx σ' j = some q at hj
        rw [hl] at hj
        rw [hE] at hc
        by_cases e : j = σ.next
        · rw [if_pos e] at hc
          injection hc with hc
          exact .inl (by omega)
        · rw [if_neg e] at hj hc
          by_cases hg : G j
          · rw [if_pos hg] at hj
            cases hj
          · rw [if_neg hg] at hj
            exact .inr ⟨j, q, hj, hc, rfl, .inl rfl⟩ }
  refine ⟨⟨fun j q hj => ?_, hcl⟩, hk, ?_⟩
  · change look cx σ' j = some q at hj
    show j < σ'.next
    rw [hl] at hj
    by_cases e : j = σ.next
    · omega
    · rw [if_neg e] at hj
      by_cases hg : G j
      · rw [if_pos hg] at hj
        cases hj
      · rw [if_neg hg] at hj
        have : j < σ.next := hwf.lt j q hj
        omega
  · have hpick : ∀ {j : Nat} {q : SObj}, (G j ∨ (vw cx σ).next ≤ j) → (vw cx σ').M j = some q → j = σ.next ∧ q = o := by
      intro j q hj hq
      change look cx σ' j = some q at hq
      rw [hl] at hq
      by_cases e : j = σ.next
      · rw [if_pos e] at hq
        injection hq with hq
        exact ⟨e, hq.symm⟩
      · rw [if_neg e] at hq
        by_cases hg : G j
        · rw [if_pos hg] at hq
          cases hq
        · rw [if_neg hg] at hq
          have h1 : j < σ.next := hwf.lt j q hq
          have h2 : σ.next ≤ j := hj.resolve_left hg
          omega
    refine hd.of_kept hk (fun j hj => (hG j hj).2) (fun j hj => hj) ?_ ?_ ?_ ?_ ?_ ?_
    · intro j q c _ hj hq hc
      obtain ⟨e1, e2⟩ := hpick hj hq
      subst e2
      rw [hE, if_pos e1] at hc
      injection hc with hc
      subst hc
      exact ⟨hcells, hden⟩
    · intro j k q r c hj hk' hq hr _ _
      rw [(hpick hj hq).1, (hpick hk' hr).1]
    · intro j k q r c hj _ hklt hDk hq hr ej ek
      rw [hE, if_pos (hpick hj hq).1] at ej
      injection ej with ej
      have := SObj.den_lt (hd.obj k r c hDk hr ek).2
      omega
    · exact fun k lo c hc => hcn k lo c hc
    · intro j hj
      change σ'.next ≤ j at hj
      rw [hE, if_neg (by omega), hd.dom j (show σ.next ≤ j by omega)]
    · intro j hj
      change σ'.nextC ≤ j at hj
      rw [hce j (.inr hj), hd.domC j (show σ.nextC ≤ j by omega)]
theorem next_kept (hwf : WF (vw cx σ)) (hd : Den cx.P D (vw cx σ) η w) {σ' : St} {o p : SObj} {g b : Nat} {cs : Array Value} {η' : Env}
    (hg : look cx σ g = some p) (hgb : η.blk g = some b) (hgD : D g) (hrp : p.isRo = false)
    (hl : ∀ j, look cx σ' j = if j = σ.next then some o else if j = g then none else look cx σ j)
    (hn : σ'.next = σ.next + 1) (hlow : σ'.low ≤ σ.low ∧ σ'.low ≤ g)
    (hE : ∀ j, η'.blk j = if j = σ.next then some b else η.blk j) (hro : o.isRo = false)
    (hnc : σ.nextC ≤ σ'.nextC) (hcs : ∀ k, k < σ.nextC → σ'.caps.get k = σ.caps.get k) (hce : ∀ k, k < σ.nextC ∨ σ'.nextC ≤ k → η'.cap k = η.cap k)
    (hcl : ∀ k lo, σ'.caps.get k = some lo → k < σ'.nextC)
    (hcn : ∀ k lo c, σ.nextC ≤ k → σ'.caps.get k = some lo → η'.cap k = some c → lo ≤ c ∧ c < capBase)
    (hcells : ∀ x ∈ o.cells, ok η' x) (hden : o.den η' (w.setRow b cs) b) :
    WF (vw cx σ') ∧ Kept (vw cx σ) η w (vw cx σ') η' (w.setRow b cs) (· = g) ∧ Den cx.P (fun j => D j ∨ σ.next ≤ j) (vw cx σ') η' (w.setRow b cs) := by
  have hn0 : η.blk σ.next = none := hd.dom σ.next (Nat.le_refl σ.next)
  have hglt : g < σ.next := hwf.lt g p hg
  have hext : Ext η η' := by
    refine ⟨fun j c hj => ?_, fun j c hj => ?_⟩
    · rw [hE, if_neg (by intro e; subst e; rw [hn0] at hj; cases hj), hj]
    · by_cases h : j < σ.nextC ∨ σ'.nextC ≤ j
      · rw [hce j h, hj]
      · rw [hd.domC j (show σ.nextC ≤ j by omega)] at hj
        cases hj
  have hk : Kept (vw cx σ) η w (vw cx σ') η' (w.setRow b cs) (· = g) :=
    { ext := hext
      only := fun j hj => by
        rw [hE, if_neg]
        intro e
        change j < σ.next ∨ σ'.next ≤ j at hj
        omega
      onlyC := hce
      next := by show σ.next ≤ σ'.next; omega
      nextC := hnc
      low := hlow.1
      wlow := fun j hj => by subst hj; exact hlow.2
      live := fun j hj => by subst hj; exact ⟨p, hg, hrp⟩
      os := rfl, tape := rfl, output := rfl, size := by simp
      frame := fun k _ hn => setRow_other w b k cs fun e => hn g rfl (by rw [hgb, e])
      same := fun j hj hne => by
        show look cx σ' j = look cx σ j
        change j < σ.next at hj
        rw [hl, if_neg (by omega), if_neg hne]
      sameC := hcs
      orig := fun j q c hj hc => by
        change look cx σ' j = some q at hj
        rw [hl] at hj
        rw [hE] at hc
        by_cases e : j = σ.next
        · rw [if_pos e] at hc hj
          injection hc with hc
          injection hj with hj
          subst hj hc
          exact .inr ⟨g, p, hg, hgb, by rw [hro, hrp], .inr rfl⟩
        · rw [if_neg e] at hj hc
          by_cases hgj : j = g
          · rw [if_pos hgj] at hj
            cases hj
          · rw [if_neg hgj] at hj
            exact .inr ⟨j, q, hj, hc, rfl, .inl rfl⟩ }
  refine ⟨⟨fun j q hj => ?_, hcl⟩, hk, ?_⟩
  · change look cx σ' j = some q at hj
    show j < σ'.next
    rw [hl] at hj
    by_cases e : j = σ.next
    · omega
    · rw [if_neg e] at hj
      by_cases hgj : j = g
      · rw [if_pos hgj] at hj
        cases hj
      · rw [if_neg hgj] at hj
        have : j < σ.next := hwf.lt j q hj
        omega
  · have hpick : ∀ {j : Nat} {q : SObj}, (j = g ∨ (vw cx σ).next ≤ j) → (vw cx σ').M j = some q → j = σ.next ∧ q = o := by
      intro j q hj hq
      change look cx σ' j = some q at hq
      rw [hl] at hq
      by_cases e : j = σ.next
      · rw [if_pos e] at hq
        injection hq with hq
        exact ⟨e, hq.symm⟩
      · rw [if_neg e] at hq
        by_cases hgj : j = g
        · rw [if_pos hgj] at hq
          cases hq
        · rw [if_neg hgj] at hq
          have h1 : j < σ.next := hwf.lt j q hq
          have h2 : σ.next ≤ j := hj.resolve_left hgj
          omega
    refine hd.of_kept hk (fun j hj => by subst hj; exact hgD) (fun j hj => hj) ?_ ?_ ?_ ?_ ?_ ?_
    · intro j q c _ hj hq hc
      obtain ⟨e1, e2⟩ := hpick hj hq
      subst e2
      rw [hE, if_pos e1] at hc
      injection hc with hc
      subst hc
      exact ⟨hcells, hden⟩
    · intro j k q r c hj hk' hq hr _ _
      rw [(hpick hj hq).1, (hpick hk' hr).1]
    · intro j k q r c hj hne hklt hDk hq hr ej ek
      rw [hE, if_pos (hpick hj hq).1] at ej
      injection ej with ej
      subst ej
      exact absurd (hd.inj k g r p b hDk hgD hr hg ek hgb) hne
    · exact fun k lo c hc => hcn k lo c hc
    · intro j hj
      change σ'.next ≤ j at hj
      rw [hE, if_neg (by omega), hd.dom j (show σ.next ≤ j by omega)]
    · intro j hj
      change σ'.nextC ≤ j at hj
      rw [hce j (.inr hj), hd.domC j (show σ.nextC ≤ j by omega)]
theorem cap_kept (hwf : WF (vw cx σ)) (hd : Den cx.P D (vw cx σ) η w) {lo c : Nat} (hlo : lo ≤ c) (hc : c < capBase) :
    WF (vw cx { σ with nextC := σ.nextC + 1, caps := σ.caps.set σ.nextC (some lo) }) ∧
      Kept (vw cx σ) η w (vw cx { σ with nextC := σ.nextC + 1, caps := σ.caps.set σ.nextC (some lo) }) (η.putC σ.nextC c) w (fun _ => False) ∧
      Den cx.P (fun j => D j ∨ σ.next ≤ j) (vw cx { σ with nextC := σ.nextC + 1, caps := σ.caps.set σ.nextC (some lo) }) (η.putC σ.nextC c) w := by
  have hg : ∀ k, (σ.caps.set σ.nextC (some lo)).get k = if k = σ.nextC then some lo else σ.caps.get k := fun k => Tr.get_set _ _ _ _
  have hext : Ext η (η.putC σ.nextC c) := Env.putC_ext (hd.domC σ.nextC (Nat.le_refl σ.nextC))
  have hk : Kept (vw cx σ) η w (vw cx { σ with nextC := σ.nextC + 1, caps := σ.caps.set σ.nextC (some lo) }) (η.putC σ.nextC c) w (fun _ => False) :=
    { ext := hext, only := fun _ _ => rfl
      onlyC := fun k hk => by
        show (if k = σ.nextC then some c else η.cap k) = η.cap k
        rw [if_neg]
        intro e
        change k < σ.nextC ∨ σ.nextC + 1 ≤ k at hk
        omega
      next := Nat.le_refl _, nextC := Nat.le_succ _, low := Nat.le_refl _, wlow := fun _ h => h.elim, live := fun _ h => h.elim, os := rfl, tape := rfl, output := rfl, size := Nat.le_refl _
      frame := fun _ _ _ => rfl, same := fun _ _ _ => rfl
      sameC := fun k hk => by
        show (σ.caps.set σ.nextC (some lo)).get k = σ.caps.get k
        change k < σ.nextC at hk
        rw [hg, if_neg (by omega)]
      orig := fun j q b hj hb => .inr ⟨j, q, hj, hb, rfl, .inl rfl⟩ }
  refine ⟨⟨hwf.lt, fun k l h => ?_⟩, hk, ?_⟩
  · change (σ.caps.set σ.nextC (some lo)).get k = some l at h
    show k < σ.nextC + 1
    rw [hg] at h
    by_cases e : k = σ.nextC
    · omega
    · rw [if_neg e] at h
      have : k < σ.nextC := hwf.caps k l h
      omega
  · refine hd.of_kept hk (fun _ h => h.elim) (fun j hj => hj) ?_ ?_ ?_ ?_ ?_ ?_
    · intro j q b _ hj hq _
      have h1 : j < σ.next := hwf.lt j q hq
      have h2 : σ.next ≤ j := hj.resolve_left id
      omega
    · intro j k q r b hj _ hq _ _ _
      have h1 : j < σ.next := hwf.lt j q hq
      have h2 : σ.next ≤ j := hj.resolve_left id
      omega
    · intro j k q r b hj _ _ _ hq _ _ _
      have h1 : j < σ.next := hwf.lt j q hq
      have h2 : σ.next ≤ j := hj.resolve_left id
      omega
    · intro k l n hkc hl hn
      change (σ.caps.set σ.nextC (some lo)).get k = some l at hl
      change (if k = σ.nextC then some c else η.cap k) = some n at hn
      change σ.nextC ≤ k at hkc
      rw [hg] at hl
      by_cases e : k = σ.nextC
      · rw [if_pos e] at hl hn
        injection hl with hl
        injection hn with hn
        subst hl hn
        exact ⟨hlo, hc⟩
      · rw [if_neg e] at hl
        have : k < σ.nextC := hwf.caps k l hl
        omega
    · exact fun j hj => hd.dom j hj
    · intro k hk
      change σ.nextC + 1 ≤ k at hk
      show (if k = σ.nextC then some c else η.cap k) = none
      rw [if_neg (by omega)]
      exact hd.domC k (show σ.nextC ≤ k by omega)
theorem newRow_sound (hwf : WF (vw cx σ)) (hd : Den cx.P D (vw cx σ) η w) {e : TypeId} {cs : List Value} {σ' : St} {ad : Addr} (hcs : ∀ x ∈ cs, ok η x) (h : newRow σ e cs = some (σ', ad)) :
    ∃ η' w', (Go.newRow e (cs.map (ren η)).toArray).run cx.P w = .ok (renA η' ad) w' ∧ (η'.blk ad.block).isSome ∧
      WF (vw cx σ') ∧ Kept (vw cx σ) η w (vw cx σ') η' w' (fun _ => False) ∧ Den cx.P (fun j => D j ∨ σ.next ≤ j) (vw cx σ') η' w' := by
  unfold newRow at h
  injection h with h
  injection h with h1 h2
  subst h1 h2
  have hnone : η.blk σ.next = none := hd.dom _ (Nat.le_refl _)
  have hext : Ext η (η.put σ.next w.heap.size) := Env.put_ext hnone
  refine ⟨η.put σ.next w.heap.size, w.alloc (.cells (cs.map (ren η)).toArray e), ?_, by simp [Env.put],
    new_kept (G := fun _ => False) (o := .row cs e) hwf hd (fun j => by rw [look_put rfl]; simp) (fun _ h => h.elim) rfl ⟨Nat.le_refl _, fun _ h => h.elim⟩ rfl rfl rfl (by simp) (fun _ hk => heap_alloc_lt hk)
      (fun _ => rfl) rfl (Nat.le_refl _) (fun _ _ => rfl) (fun _ _ => rfl) hwf.caps ?_ ?_ ?_⟩
  · simp [Go.newRow, renA, Env.b, Env.put]
  · intro k lo c hk hlo hc
    have : k < σ.nextC := hwf.caps k lo hlo
    omega
  · exact fun x hx => ok_ext hext x (hcs x hx)
  · show _ = _
    rw [heap_alloc_new]
    congr 3
    exact (List.map_congr_left fun x hx => ren_ext hext x (hcs x hx)).symm
end
end
end Go.Sym
namespace Go.Sym
open Go
noncomputable section
structure TyOk (P : Program) (t : TypeId) (i : TI) : Prop where
  under : P.underlying t = some i.desc
  info : ∃ f, P.info? t = some f ∧ f.size = i.size ∧ f.bytes = i.bytes ∧ f.zero = i.zero
  zero : ∀ z, i.zero = some z → plain z = true
def TysOk (cx : Ctx) : Prop := ∀ t i, cx.ty.get t = some i → TyOk cx.P t i
section
variable {cx : Ctx} (hT : TysOk cx) {t : TypeId} {i : TI}
include hT
theorem ty_under (h : ty cx t = some i) (w : World) : (underlying t).run cx.P w = .ok i.desc w := run_underlying (hT t i h).under w
theorem ty_info (h : ty cx t = some i) (w : World) : ∃ f, (typeInfo t).run cx.P w = .ok f w ∧ f.size = i.size ∧ f.bytes = i.bytes ∧ f.zero = i.zero := by
  obtain ⟨f, hf, h1, h2, h3⟩ := (hT t i h).info
  refine ⟨f, ?_, h1, h2, h3⟩
  simp [typeInfo, hf]
theorem ty_size (h : ty cx t = some i) (w : World) : (sizeOf t).run cx.P w = .ok i.size w := by
  obtain ⟨f, hf, h1, _, _⟩ := ty_info hT h w
  simp [sizeOf, hf, h1]
theorem ty_zero (h : ty cx t = some i) {z : Value} (hz : i.zero = some z) (w : World) : (zeroValue t).run cx.P w = .ok z w := by
  obtain ⟨f, hf, _, _, h3⟩ := ty_info hT h w
  simp [zeroValue, hf, h3, hz]
theorem ty_agg (h : ty cx t = some i) (w : World) : (isAgg t).run cx.P w = .ok (isAggD i.desc) w := by
  simp only [isAgg, Sem.run_bind, ty_under hT h w, Result.andThen_ok]
  cases i.desc <;> rfl
end
theorem pureVal_run {α : Type} {P : Program} (w : World) : ∀ {m : Sem α} {a : α}, pureVal P m = some a → m.run P w = .ok a w
  | .pure b, a, h => by
    simp only [pureVal, Option.some.injEq] at h
    subst h
    rfl
  | .program k, a, h => pureVal_run w (m := k P) h
  | .mark _ k, a, h => pureVal_run w (m := k) h
  | .load _ _ _, _, h | .store _ _ _ _, _, h | .new _ _, _, h | .shape _ _, _, h | .freeze _ _ _, _, h | .frozen _ _, _, h | .getObj _ _, _, h | .setObj _ _ _, _, h
  | .choose _ _, _, h | .sys _ _, _, h | .halt _, _, h => by simp [pureVal] at h
theorem pureV_run {P : Program} (w : World) {m : Sem Value} {v : Value} (h : pureV P m = some v) : m.run P w = .ok v w ∧ plain v = true := by
  unfold pureV at h
  split at h
  · rename_i u hu
    cases hp : plain u with
    | false => simp [hp] at h
    | true =>
      simp only [hp, cond_true, Option.some.injEq] at h
      subst h
      exact ⟨pureVal_run w hu, hp⟩
  · cases h
theorem pureN_run {P : Program} (w : World) {m : Sem Next} {v : Value} (h : pureN P m = some v) : m.run P w = .ok (.value v) w ∧ plain v = true := by
  unfold pureN at h
  split at h
  · rename_i u hu
    cases hp : plain u with
    | false => simp [hp] at h
    | true =>
      simp only [hp, cond_true, Option.some.injEq] at h
      subst h
      exact ⟨pureVal_run w hu, hp⟩
  · cases h
theorem ixOf_inv {v : Value} {top n : Nat} (h : ixOf v top = some n) : ∃ k, v = .int k (n : Int) ∧ n < top := by
  unfold ixOf at h
  split at h
  · rename_i k m
    cases hb : Nat.ble (Nat.succ m) top with
    | false => simp [hb] at h
    | true =>
      simp only [hb, cond_true, Option.some.injEq] at h
      subst h
      exact ⟨k, rfl, Nat.le_of_ble_eq_true hb⟩
  · cases h
theorem natOf_inv {v : Value} {top n : Nat} (h : natOf v top = some n) : ∃ k, v = .int k (n : Int) ∧ n ≤ top := by
  unfold natOf at h
  split at h
  · rename_i k m
    cases hb : Nat.ble m top with
    | false => simp [hb] at h
    | true =>
      simp only [hb, cond_true, Option.some.injEq] at h
      subst h
      exact ⟨k, rfl, Nat.le_of_ble_eq_true hb⟩
  · cases h
theorem addrOf_inv {v : Value} {a : Addr} (h : addrOf v = some a) : v = .pointer (some a) := by
  unfold addrOf at h
  split at h
  · injection h with h
    rw [h]
  · cases h
theorem renA_add' {η : Env} {a : Addr} (j : Nat) : (renA η a).add j = renA η (a.add j) := by
  unfold renA Addr.add
  split <;> rfl
theorem add_block {a : Addr} (j : Nat) : (a.add j).block = a.block := by
  unfold Addr.add
  split <;> rfl
theorem ok_pointer {η : Env} {a : Addr} : ok η (.pointer (some a)) ↔ (η.blk a.block).isSome := by
  simp [ok]
section
variable {cx : Ctx} (hT : TysOk cx) {η : Env} {w : World}
include hT
theorem partOf_sound {t : TypeId} {cs : List Value} {off : Nat} {v : Value} (hc : ∀ x ∈ cs, ok η x) (h : partOf cx t cs off = some v) :
    (part t (cs.map (ren η)).toArray off).run cx.P w = .ok (ren η v) w ∧ ok η v := by
  simp only [partOf, Option.bind_eq_bind, Option.bind_eq_some_iff] at h
  obtain ⟨i, hi, h⟩ := h
  simp only [part, Sem.run_bind, ty_agg hT hi, Result.andThen_ok]
  cases hd : isAggD i.desc with
  | true =>
    simp only [hd, if_true, Option.some.injEq] at h
    subst h
    simp only [if_true, Sem.run_bind, ty_size hT hi, Result.andThen_ok, Sem.run_pure]
    refine ⟨?_, ?_⟩
    · congr 2
      simp only [renArr, renL_eq]
      congr 1
      apply Array.ext'
      simp [List.map_take, List.map_drop, List.extract_eq_take_drop]
    · simp only [ok, okA, okL_iff]
      exact fun x hx => hc x (List.mem_of_mem_drop (List.mem_of_mem_take hx))
  | false =>
    simp only [hd, Bool.false_eq_true, if_false] at h
    have hg : (cs.map (ren η)).toArray[off]? = some (ren η v) := by simp [h]
    simp only [Bool.false_eq_true, if_false, hg, Sem.run_pure]
    exact ⟨trivial, hc v (List.mem_of_getElem? h)⟩
theorem opField_sound {s : TypeId} {x v : Value} {k : Nat} (hx : ok η x) (h : opField cx s x k = some v) :
    (Instr.field s (ren η x) k).run cx.P w = .ok (ren η v) w ∧ ok η v := by
  simp only [opField, Option.bind_eq_bind, Option.bind_eq_some_iff] at h
  obtain ⟨i, hi, h⟩ := h
  split at h
  · rename_i fields cs hd
    simp only [Option.bind_eq_some_iff] at h
    obtain ⟨f, hf, h⟩ := h
    obtain ⟨h1, h2⟩ := partOf_sound hT (w := w) ((okA_iff cs).1 (by simpa [ok] using hx)) h
    refine ⟨?_, h2⟩
    have hf' : fields[k]? = some f := by simpa using hf
    simp only [Instr.field, Sem.run_bind, ty_under hT hi, hd, Result.andThen_ok, hf', ren, asAgg, Sem.run_pure, renArr_eq]
    have e : Array.map (ren η) cs = (cs.toList.map (ren η)).toArray := by apply Array.ext'; simp
    rw [e]
    exact h1
  · cases h
theorem opIndex_sound {t : TypeId} {x ix v : Value} (hx : ok η x) (h : opIndex cx t x ix = some v) :
    (Instr.index t (ren η x) (ren η ix)).run cx.P w = .ok (ren η v) w ∧ ok η v := by
  simp only [opIndex, Option.bind_eq_bind, Option.bind_eq_some_iff] at h
  obtain ⟨i, hi, h⟩ := h
  split at h
  · rename_i len elem cs hd
    simp only [Option.bind_eq_some_iff] at h
    obtain ⟨ei, hei, n, hn, h⟩ := h
    obtain ⟨k, rfl, hlt⟩ := ixOf_inv hn
    obtain ⟨h1, h2⟩ := partOf_sound hT (w := w) ((okA_iff cs).1 (by simpa [ok] using hx)) h
    refine ⟨?_, h2⟩
    have e : Array.map (ren η) cs = (cs.toList.map (ren η)).toArray := by apply Array.ext'; simp
    simp only [Instr.index, ren, asIntOf, Sem.run_bind, Sem.run_pure, Result.andThen_ok, ty_under hT hi, hd, renArr_eq, e]
    rw [if_pos ⟨by omega, by omega⟩]
    simp only [Sem.run_bind, ty_size hT hei, Result.andThen_ok, Int.toNat_natCast]
    exact h1
  · rename_i s hd
    simp only [Option.bind_eq_some_iff] at h
    obtain ⟨n, hn, b, hb, h⟩ := h
    obtain ⟨k, rfl, hlt⟩ := ixOf_inv hn
    injection h with h
    subst h
    refine ⟨?_, by simp [ok]⟩
    have hb' : s[n]? = some b := by
      have hlt' : n < s.size := by simpa using hlt
      obtain ⟨hq, e⟩ := List.getElem?_eq_some_iff.1 hb
      rw [getElem?_pos s n hlt']
      exact congrArg some e
    simp only [Instr.index, ren, asIntOf, Sem.run_bind, Sem.run_pure, Result.andThen_ok, ty_under hT hi, hd]
    rw [if_pos (by omega)]
    simp [hb']
  · cases h
theorem opIndexAddr_sound {t : TypeId} {x ix v : Value} (hx : ok η x) (h : opIndexAddr cx t x ix = some v) :
    (Instr.indexAt t (ren η x) (ren η ix)).run cx.P w = .ok (ren η v) w ∧ ok η v := by
  simp only [opIndexAddr, Option.bind_eq_bind, Option.bind_eq_some_iff] at h
  obtain ⟨i, hi, h⟩ := h
  split at h
  · rename_i len elem a hd
    simp only [Option.bind_eq_some_iff] at h
    obtain ⟨ei, hei, n, hn, h⟩ := h
    obtain ⟨k, rfl, hlt⟩ := ixOf_inv hn
    injection h with h
    subst h
    refine ⟨?_, by rw [ok_pointer, add_block]; exact ok_pointer.1 hx⟩
    simp only [Instr.indexAt, ren, asIntOf, Sem.run_bind, Sem.run_pure, Result.andThen_ok, ty_under hT hi, hd, Option.map_some, Instr.sureAddr]
    rw [if_pos ⟨by omega, by omega⟩]
    simp only [Sem.run_bind, ty_size hT hei, Result.andThen_ok, Int.toNat_natCast, Sem.run_pure, renA_add']
  · rename_i elem a len cap hd
    simp only [Option.bind_eq_some_iff] at h
    obtain ⟨ei, hei, n, hn, h⟩ := h
    obtain ⟨k, rfl, hlt⟩ := ixOf_inv hn
    injection h with h
    subst h
    refine ⟨?_, by rw [ok_pointer, add_block]; simp only [ok] at hx; exact hx.1 a rfl⟩
    simp only [Instr.indexAt, ren, asIntOf, Sem.run_bind, Sem.run_pure, Result.andThen_ok, ty_under hT hi, hd, Option.map_some]
    rw [if_pos ⟨by omega, by omega⟩]
    simp only [Sem.run_bind, ty_size hT hei, Result.andThen_ok, Int.toNat_natCast, Sem.run_pure, renA_add']
  · cases h
theorem opFieldAddr_sound {s : TypeId} {x v : Value} {k : Nat} (hx : ok η x) (h : opFieldAddr cx s x k = some v) :
    (Instr.fieldAt s (ren η x) k).run cx.P w = .ok (ren η v) w ∧ ok η v := by
  simp only [opFieldAddr, Option.bind_eq_bind, Option.bind_eq_some_iff] at h
  obtain ⟨i, hi, a, ha, h⟩ := h
  split at h
  · rename_i fields hd
    simp only [Option.bind_eq_some_iff] at h
    obtain ⟨f, hf, fi, hfi, _, hg, h⟩ := h
    injection h with h
    subst h
    have hg := of_decide_eq_true (guard'_some hg)
    have hx' := addrOf_inv ha
    subst hx'
    refine ⟨?_, by rw [ok_pointer, add_block]; exact ok_pointer.1 hx⟩
    have hf' : fields[k]? = some f := by simpa using hf
    simp only [Instr.fieldAt, ren, Sem.run_bind, Sem.run_pure, Result.andThen_ok, ty_under hT hi, hd, hf', Option.map_some, Instr.sureAddr]
    simp only [fieldPlace, Sem.run_bind, ty_size hT hfi, Result.andThen_ok]
    simp [hg, renA_add']
  · cases h
theorem opLen_sound {ts : Array TypeId} {type t : TypeId} {x v : Value} {as : Array Value} (ht : ts[0]? = some t) (ha : as[0]? = some (ren η x)) (h : opLen cx t x = some v) :
    (Builtin.len_ ts type as).run cx.P w = .ok (ren η v) w ∧ ok η v := by
  simp only [opLen, Option.bind_eq_bind, Option.bind_eq_some_iff] at h
  obtain ⟨i, hi, h⟩ := h
  split at h
  · rename_i s hd
    injection h with h
    subst h
    simp [Builtin.len_, ht, ha, ty_under hT hi, hd, ren, goInt, ok]
  · rename_i n elem hd
    injection h with h
    subst h
    simp [Builtin.len_, ht, ha, ty_under hT hi, hd, ren, goInt, ok]
  · rename_i e a n c hd
    injection h with h
    subst h
    simp [Builtin.len_, ht, ha, ty_under hT hi, hd, ren, goInt, ok]
  · cases h
end
theorem equalIn_nil {cx : Ctx} (hT : TysOk cx) {η : Env} {w : World} {t : TypeId} {i : TI} (hi : ty cx t = some i) {x y : Value} {b : Bool} (h : eqNil i.desc x y = some b) (d : Nat) :
    (Op.equalIn (d + 1) t (ren η x) (ren η y)).run cx.P w = .ok b w := by
  have hu := ty_under hT hi w
  rw [Op.equalIn, Sem.run_bind, hu, Result.andThen_ok]
  generalize i.desc = D at h
  unfold eqNil at h
  split at h
  · cases D <;> simp at h
    subst h
    simp only [ren, Option.map_none]
    cases ‹Option Addr› <;> rfl
  · cases D <;> simp at h
    subst h
    rfl
  · cases D <;> simp at h
    subst h
    simp only [ren, Option.map_none]
    cases ‹Option Addr› <;> rfl
  · cases D <;> simp at h
    subst h
    rfl
  · cases D <;> simp at h
    subst h
    rfl
  · cases D <;> simp at h
    subst h
    rfl
  · cases D <;> simp at h
    subst h
    rfl
  · cases h
theorem eqNil_forms {η : Env} {D : TypeDesc} {x y : Value} {b : Bool} (h : eqNil D x y = some b) (t : TypeId) :
    (∀ op ox oy, eqGuard op t ox oy (ren η x) (ren η y) = pure ()) ∧ binOp .eql t (ren η x) (ren η y) = (do pure (.bool (← Op.equal t (ren η x) (ren η y)))) ∧
      binOp .neq t (ren η x) (ren η y) = (do pure (.bool (!(← Op.equal t (ren η x) (ren η y))))) := by
  unfold eqNil at h
  split at h
  all_goals first
    | (cases h; done)
    | exact ⟨fun op ox oy => by cases op <;> rfl, rfl, rfl⟩
theorem opBin_sound {cx : Ctx} (hT : TysOk cx) {η : Env} {w : World} {op : BinOp} {t : TypeId} {ox oy : Operand} {x y v : Value} (h : opBin cx op t ox oy x y = some v) :
    (do eqGuard op t ox oy (ren η x) (ren η y); binOp op t (ren η x) (ren η y) : Sem Value).run cx.P w = .ok (ren η v) w ∧ ok η v := by
  unfold opBin at h
  split at h
  · rename_i hp
    simp only [Bool.and_eq_true] at hp
    obtain ⟨h1, h2⟩ := pureV_run w h
    rw [ren_plain η x hp.1, ren_plain η y hp.2, ren_plain η v h2]
    exact ⟨h1, plain_ok η v h2⟩
  · simp only [Option.bind_eq_bind, Option.bind_eq_some_iff] at h
    obtain ⟨i, hi, h⟩ := h
    split at h
    · simp only [Option.bind_eq_some_iff] at h
      obtain ⟨b, hb, h⟩ := h
      injection h with h
      subst h
      obtain ⟨h2, h3, _⟩ := eqNil_forms (η := η) hb t
      have h1 : (Op.equal t (ren η x) (ren η y)).run cx.P w = .ok b w := equalIn_nil hT hi hb _
      rw [h2, h3]
      simp only [Sem.run_bind, Sem.run_pure, Result.andThen_ok, h1]
      exact ⟨rfl, by simp [ok]⟩
    · simp only [Option.bind_eq_some_iff] at h
      obtain ⟨b, hb, h⟩ := h
      injection h with h
      subst h
      obtain ⟨h2, _, h3⟩ := eqNil_forms (η := η) hb t
      have h1 : (Op.equal t (ren η x) (ren η y)).run cx.P w = .ok b w := equalIn_nil hT hi hb _
      rw [h2, h3]
      simp only [Sem.run_bind, Sem.run_pure, Result.andThen_ok, h1]
      exact ⟨rfl, by simp [ok]⟩
    · cases h
theorem setAll_ren (η : Env) (off : Nat) : ∀ (l : List (Value × Nat)) (cs : Array Value),
    (l.map fun p => (ren η p.1, p.2)).foldl (fun cs (c, j) => cs.setIfInBounds (off + j) c) (cs.map (ren η)) = (l.foldl (fun cs (c, j) => cs.setIfInBounds (off + j) c) cs).map (ren η)
  | [], _ => rfl
  | p :: l, cs => by
    simp only [List.map_cons, List.foldl_cons]
    rw [← setAll_ren η off l]
    congr 1
    rw [Array.map_setIfInBounds]
theorem setAll_mem (off : Nat) (Q : Value → Prop) : ∀ (l : List (Value × Nat)) (cs : Array Value), (∀ p ∈ l, Q p.1) → (∀ x ∈ cs, Q x) →
    ∀ x ∈ l.foldl (fun cs (c, j) => cs.setIfInBounds (off + j) c) cs, Q x
  | [], _, _, h => h
  | p :: l, cs, hl, h => by
    simp only [List.foldl_cons]
    refine setAll_mem off Q l _ (fun q hq => hl q (List.mem_cons_of_mem _ hq)) fun x hx => ?_
    rcases Array.mem_or_eq_of_mem_setIfInBounds hx with h' | h'
    · exact h x h'
    · rw [h']
      exact hl p List.mem_cons_self
theorem fill_sound (η : Env) (place : Nat → Option (Nat × Nat)) : ∀ (parts : List (Nat × Value)) (cells out : Array Value), (∀ p ∈ parts, ok η p.2) → (∀ x ∈ cells, ok η x) →
    Instr.fill place cells parts = some out → Instr.fill place (cells.map (ren η)) (parts.map fun p => (p.1, ren η p.2)) = some (out.map (ren η)) ∧ ∀ x ∈ out, ok η x
  | [], cells, out, _, hc, h => by
    simp only [Instr.fill, Option.some.injEq] at h
    subst h
    exact ⟨rfl, hc⟩
  | (i, v) :: rest, cells, out, hp, hc, h => by
    simp only [Instr.fill, List.map_cons] at h ⊢
    cases hpl : place i with
    | none => simp [hpl] at h
    | some q =>
      obtain ⟨off, size⟩ := q
      simp only [hpl] at h ⊢
      split at h
      · cases h
      · rename_i hcond
        have hs : (ren η v).cells.size = v.cells.size := by rw [ren_cells]; simp
        rw [hs, Array.size_map, if_neg hcond]
        have hcv : ∀ x ∈ v.cells.toList, ok η x := ok_cells (hp (i, v) List.mem_cons_self)
        have e := setAll_ren η off v.cells.toList.zipIdx cells
        have hz : (ren η v).cells.zipIdx.toList = v.cells.toList.zipIdx.map fun p => (ren η p.1, p.2) := by
          rw [ren_cells]
          simp [List.zipIdx_map]
        rw [← Array.foldl_toList, hz, e]
        rw [← Array.foldl_toList, Array.toList_zipIdx] at h
        refine fill_sound η place rest _ out (fun p hp' => hp p (List.mem_cons_of_mem _ hp')) ?_ h
        refine setAll_mem off (ok η) _ _ (fun p hp' => ?_) hc
        exact hcv p.1 (by
          obtain ⟨a, b⟩ := p
          exact List.fst_mem_of_mem_zipIdx hp')
theorem plain_cells {v : Value} (h : plain v = true) : ∀ x ∈ v.cells, plain x = true := by
  have hl : ∀ l : List Value, plainL l = true → ∀ x ∈ l, plain x = true := by
    intro l
    induction l with
    | nil => simp
    | cons a r ih =>
      intro h x hx
      simp only [plainL, Bool.and_eq_true] at h
      rcases List.mem_cons.1 hx with rfl | hx
      · exact h.1
      · exact ih h.2 x hx
  cases v with
  | agg cs =>
    intro x hx
    simp only [plain] at h
    obtain ⟨l⟩ := cs
    simp only [plainA] at h
    exact hl l h x (by simpa [Value.cells] using hx)
  | _ => simpa [Value.cells] using h
theorem ren_cells_plain {η : Env} {v : Value} (h : plain v = true) : v.cells.map (ren η) = v.cells := by
  rw [← ren_cells, ren_plain η v h]
theorem mapM_run {α β : Type} {P : Program} {w : World} (f : α → Sem β) (g : α → Option β) (hfg : ∀ a b, g a = some b → (f a).run P w = .ok b w) :
    ∀ (l : List α) (out : List β), l.mapM g = some out → (l.mapM f).run P w = .ok out w
  | [], out, h => by
    simp only [List.mapM_nil, Option.pure_def, Option.some.injEq] at h
    subst h
    rfl
  | a :: l, out, h => by
    simp only [List.mapM_cons, Option.bind_eq_bind, Option.bind_eq_some_iff] at h
    obtain ⟨b, hb, bs, hbs, h⟩ := h
    injection h with h
    subst h
    simp only [List.mapM_cons, Sem.run_bind, hfg a b hb, Result.andThen_ok, mapM_run f g hfg l bs hbs, Sem.run_pure]
theorem amapM_run {α β : Type} {P : Program} {w : World} (f : α → Sem β) (g : α → Option β) (hfg : ∀ a b, g a = some b → (f a).run P w = .ok b w) (a : Array α) (out : List β) (h : a.toList.mapM g = some out) :
    (a.mapM f).run P w = .ok out.toArray w := by
  rw [Array.mapM_eq_mapM_toList, Sem.run_map, mapM_run f g hfg _ _ h]
  rfl
theorem opBuild_sound {cx : Ctx} (hT : TysOk cx) {η : Env} {w : World} {t : TypeId} {parts : List (Nat × Value)} {v : Value} (hp : ∀ p ∈ parts, ok η p.2) (h : opBuild cx t parts = some v) :
    (Instr.build t (parts.map fun p => (p.1, ren η p.2)).toArray).run cx.P w = .ok (ren η v) w ∧ ok η v := by
  simp only [opBuild, Option.bind_eq_bind, Option.bind_eq_some_iff] at h
  obtain ⟨i, hi, z, hz, h⟩ := h
  have hpz : plain z = true := (hT t i hi).zero z hz
  have hzc : ∀ x ∈ z.cells, ok η x := fun x hx => plain_ok η x (plain_cells hpz x hx)
  split at h
  · rename_i fields hd
    simp only [Option.bind_eq_some_iff] at h
    obtain ⟨places, hpl, cells, hc, h⟩ := h
    injection h with h
    subst h
    obtain ⟨h1, h2⟩ := fill_sound η _ parts z.cells cells hp hzc hc
    rw [ren_cells_plain hpz] at h1
    refine ⟨?_, by simp only [ok, okA_iff]; exact fun x hx => h2 x (by simpa using hx)⟩
    have hm : (fields.mapM fun f => (do pure (f.offset, ← sizeOf f.type) : Sem (Nat × Nat))).run cx.P w = .ok places.toArray w := by
      refine amapM_run _ (fun f => (ty cx f.type).bind fun fi => some (f.offset, fi.size)) (fun f b hb => ?_) fields places hpl
      simp only [Option.bind_eq_some_iff] at hb
      obtain ⟨fi, hfi, hb⟩ := hb
      injection hb with hb
      subst hb
      simp [ty_size hT hfi]
    simp only [Instr.build, Sem.run_bind, ty_zero hT hi hz, Result.andThen_ok, ty_under hT hi, hd, hm]
    have e : (fun k : Nat => places.toArray[k]?) = fun k : Nat => places[k]? := by funext k; simp
    simp only [e, h1, Sem.run_pure, ren, renArr_eq]
  · rename_i n elem hd
    simp only [Option.bind_eq_some_iff] at h
    obtain ⟨ei, hei, cells, hc, h⟩ := h
    injection h with h
    subst h
    obtain ⟨h1, h2⟩ := fill_sound η _ parts z.cells cells hp hzc hc
    rw [ren_cells_plain hpz] at h1
    refine ⟨?_, by simp only [ok, okA_iff]; exact fun x hx => h2 x (by simpa using hx)⟩
    simp only [Instr.build, Sem.run_bind, ty_zero hT hi hz, Result.andThen_ok, ty_under hT hi, hd, ty_size hT hei, h1, Sem.run_pure, ren, renArr_eq]
  · cases h
theorem sliceBound_sound {η : Env} {P : Program} {w : World} (v : Value) (n top : Nat) (code : BoundsCode) (hn : n ≤ top) (hv : ∃ k, v = .int k (n : Int)) :
    (Instr.sliceBound (ren η v) top code).run P w = .ok n w := by
  obtain ⟨k, rfl⟩ := hv
  simp only [Instr.sliceBound, ren, asIntOf, Sem.run_bind, Sem.run_pure, Result.andThen_ok]
  rw [if_pos ⟨by omega, by omega⟩]
  simp
theorem bounds_wide {η : Env} {P : Program} {w : World} {isSlice : Bool} {len low c : Nat} {lo hi : Option Value} {l h m : Nat} (hb : bounds len low lo hi none = some (l, h, m)) (hc : low ≤ c) :
    (Instr.sliceBounds isSlice len c (lo.map (ren η)) (hi.map (ren η)) none).run P w = .ok (l, h, c) w := by
  simp only [bounds, Option.bind_eq_some_iff] at hb
  obtain ⟨m', hm, h', hh, l', hl, he⟩ := hb
  injection he with he
  injection he with e1 he
  injection he with e2 e3
  subst e1 e2 e3
  simp only [bMax, Option.some.injEq] at hm
  subst hm
  simp only [Instr.sliceBounds, Sem.run_bind, Sem.run_pure, Result.andThen_ok]
  cases hi with
  | none =>
    simp only [bHigh, Option.isSome_none, cond_false, Option.some.injEq] at hh
    subst hh
    simp only [Option.map_none, Sem.run_bind, Sem.run_pure, Result.andThen_ok]
    cases lo with
    | none =>
      simp only [bLow, Option.some.injEq] at hl
      subst hl
      rfl
    | some v =>
      obtain ⟨k, e, hle⟩ := natOf_inv hl
      simp only [Option.map_some, Sem.run_bind, sliceBound_sound v l' len _ hle ⟨k, e⟩, Result.andThen_ok, Sem.run_pure]
  | some u =>
    obtain ⟨k', e', hle'⟩ := natOf_inv hh
    simp only [Option.map_some, Sem.run_bind, sliceBound_sound u h' c _ (Nat.le_trans hle' hc) ⟨k', e'⟩, Result.andThen_ok]
    cases lo with
    | none =>
      simp only [bLow, Option.some.injEq] at hl
      subst hl
      rfl
    | some v =>
      obtain ⟨k, e, hle⟩ := natOf_inv hl
      simp only [Option.map_some, Sem.run_bind, sliceBound_sound v l' h' _ hle ⟨k, e⟩, Result.andThen_ok, Sem.run_pure]
theorem bounds_sound {η : Env} {P : Program} {w : World} {isSlice : Bool} {len cap low : Nat} (hc : cap ≤ low) {lo hi mx : Option Value} {l h m : Nat} (hb : bounds len cap lo hi mx = some (l, h, m)) :
    (Instr.sliceBounds isSlice len (if mx.isSome then low else cap) (lo.map (ren η)) (hi.map (ren η)) (mx.map (ren η))).run P w = .ok (l, h, m) w ∧ m ≤ cap ∧ (mx = none → m = cap) ∧ (len ≤ cap → l ≤ h ∧ h ≤ cap) := by
  have sb : ∀ (v : Value) (n top : Nat) (code : BoundsCode), n ≤ top → (∃ k, v = .int k (n : Int)) → (Instr.sliceBound (ren η v) top code).run P w = .ok n w := by
    rintro v n top code hn ⟨k, rfl⟩
    simp only [Instr.sliceBound, ren, asIntOf, Sem.run_bind, Sem.run_pure, Result.andThen_ok]
    rw [if_pos ⟨by omega, by omega⟩]
    simp
  simp only [bounds, Option.bind_eq_some_iff] at hb
  obtain ⟨m', hm, h', hh, l', hl, he⟩ := hb
  injection he with he
  injection he with e1 he
  injection he with e2 e3
  subst e1 e2 e3
  simp only [Instr.sliceBounds]
  cases mx with
  | none =>
    simp only [bMax, Option.some.injEq] at hm
    subst hm
    simp only [Option.map_none, Sem.run_bind, Sem.run_pure, Result.andThen_ok, Option.isSome_none, Bool.false_eq_true, if_false]
    cases hi with
    | none =>
      simp only [bHigh, Option.isSome_none, cond_false, Option.some.injEq] at hh
      subst hh
      simp only [Option.map_none, Sem.run_bind, Sem.run_pure, Result.andThen_ok]
      cases lo with
      | none =>
        simp only [bLow, Option.some.injEq] at hl
        subst hl
        simp
      | some v =>
        obtain ⟨k, e, hle⟩ := natOf_inv hl
        simp only [Option.map_some, Sem.run_bind, sb v _ _ _ hle ⟨k, e⟩, Result.andThen_ok, Sem.run_pure]
        exact ⟨trivial, Nat.le_refl _, fun _ => trivial, fun hlen => ⟨hle, hlen⟩⟩
    | some u =>
      obtain ⟨k', e', hle'⟩ := natOf_inv hh
      simp only [Option.map_some, Sem.run_bind, sb u _ _ _ hle' ⟨k', e'⟩, Result.andThen_ok]
      cases lo with
      | none =>
        simp only [bLow, Option.some.injEq] at hl
        subst hl
        simp only [Option.map_none, Sem.run_bind, Sem.run_pure, Result.andThen_ok]
        exact ⟨trivial, Nat.le_refl _, fun _ => trivial, fun _ => ⟨Nat.zero_le _, hle'⟩⟩
      | some v =>
        obtain ⟨k, e, hle⟩ := natOf_inv hl
        simp only [Option.map_some, Sem.run_bind, sb v _ _ _ hle ⟨k, e⟩, Result.andThen_ok, Sem.run_pure]
        exact ⟨trivial, Nat.le_refl _, fun _ => trivial, fun _ => ⟨hle, hle'⟩⟩
  | some x =>
    obtain ⟨kx, ex, hlex⟩ := natOf_inv hm
    simp only [Option.map_some, Option.isSome_some, if_true, Sem.run_bind, sb x _ _ _ (Nat.le_trans hlex hc) ⟨kx, ex⟩, Result.andThen_ok]
    cases hi with
    | none => simp [bHigh] at hh
    | some u =>
      obtain ⟨k', e', hle'⟩ := natOf_inv hh
      simp only [Option.map_some, Sem.run_bind, sb u _ _ _ hle' ⟨k', e'⟩, Result.andThen_ok]
      cases lo with
      | none =>
        simp only [bLow, Option.some.injEq] at hl
        subst hl
        simp only [Option.map_none, Sem.run_bind, Sem.run_pure, Result.andThen_ok]
        exact ⟨trivial, hlex, (fun h => (by cases h)), fun _ => ⟨Nat.zero_le _, by omega⟩⟩
      | some v =>
        obtain ⟨k, e, hle⟩ := natOf_inv hl
        simp only [Option.map_some, Sem.run_bind, sb v _ _ _ hle ⟨k, e⟩, Result.andThen_ok, Sem.run_pure]
        exact ⟨trivial, hlex, (fun h => (by cases h)), fun _ => ⟨hle, by omega⟩⟩
end
end Go.Sym
