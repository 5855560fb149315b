/- The framework, part 2: a small code, out of the program's own by a function that is run in the kernel; what must be shown of it ('vcOps'). -/
import Derived.Test.YtnampnnphgedhaaDoorFwA
set_option linter.all false
namespace Go.Fw
open Go

/-- An operand. -/
inductive Opd where
  | t (n : Nat)
  | c (v : V)

/-- Kinds of cells that are compared. -/
inductive Leaf where
  | i | b | s
/-- Kinds of types that nil is of. -/
inductive NK where
  | sl | ifc | fn | ptr

/-- Operations, with all that they ask of types looked up. -/
inductive MOp where
  | mv (x : Opd)
  | pick (c x y : Opd)
  | alloc (z : List D)
  | box (x : Opd)
  | ibox (x : Opd)
  | build (z : List D) (parts : List (Nat × Nat × Opd))
  | bslice (sz : Nat) (z : List D) (len : Nat) (parts : List (Nat × Opd))
  | bslO (sz : Nat) (z : List D) (len : Nat) (parts : List (Nat × Opd))
  | load (n : Nat) (ag : Bool) (x : Opd)
  | store (n : Nat) (x y : Opd)
  | fad (off : Nat) (x : Opd)
  | iad (sz : Nat) (x i : Opd)
  | iadA (len sz : Nat) (x i : Opd)
  | idxS (x i : Opd)
  | len (kd : Leaf) (x : Opd)
  | app (sz bytes : Nat) (x y : Opd)
  | min (x y : Opd)
  | max (x y : Opd)
  | bin (kd : Leaf) (o : BinOp) (x y : Opd)
  | eqs (neg : Bool) (ks : List Leaf) (x y : Opd)
  | nilq (kd : NK) (neg : Bool) (x : Opd)
  | not (x : Opd)
  | conv (k : IntKind) (x : Opd)
  | mkI (t : TypeId) (x : Opd)
  | mkF (f : Fn) (caps : List Opd)
  | mkMv (f : Fn) (x : Opd)
  | mkM
  | lkp (ok : Bool) (z : V) (kag : Bool) (ks : List Leaf) (m k : Opd)
  | mupd (kag : Bool) (ks : List Leaf) (m k v : Opd)
  | mkS (sz bytes : Nat) (z : List D) (l : Opd)
  | slcS (x : Opd) (lo hi : Option Opd)
  | slc (sz : Nat) (x : Opd) (lo hi : Option Opd)
  | ext (x : Opd) (i : Nat)
  | call (f : FuncId) (args : List Opd)
  | callv (g : Opd) (args : List Opd)
  | rng (x : Opd)
  | nxt (x : Opd)
  | tas (t : TypeId) (ok : Bool) (z : V) (x : Opd)

/-- A step of a region: an operation with the slot that it writes; or the look whether the next one is wanted. -/
inductive MO where
  | op (d : Option Nat) (o : MOp)
  | chk (t : Nat) (b : Bool) (d : Option Nat)

inductive MC where
  | skip
  | reg (draw : Bool) (ops : List MO)
  | seq (a b : MC)
  | cond (c : Opd) (x y : MC)
  | blk (id : Nat) (b : MC)
  | loop (b : MC)
  | rf (f : Opd) (ps : List Nat) (asg body : MC)
  | exit (id : Nat)
  | scope (b : MC)
  | ret

/-! ### Out of the program's code -/
def dOf : Value → Option D
  | .int k n => some (.int k n)
  | .bool b => some (.bool b)
  | .string s => some (.str s)
  | .slice none 0 0 => some (.sl [])
  | .nilIface => some .nilI
  | .nilFunc => some .nilF
  | .pointer none => some .nilP
  | .map none => some (.raw (.map none))
  | _ => none
def dsOf : List Value → Option (List D)
  | [] => some []
  | v :: l => (dOf v).bind fun x => (dsOf l).map (x :: ·)
def vOf : Value → V
  | .agg cs => match dsOf cs.toList with
    | some l => .agg (l.map A.ofZ)
    | none => .un
  | v => match dOf v with
    | some x => .one (A.ofZ x)
    | none => .un
def opdOf : Operand → Opd
  | .tmp t => .t t
  | .const v => .c (vOf v)
  | .global g => .c (.one (.d (.raw (.pointer (some ⟨g, 0, none⟩)))))
  | .func f => .c (.one (.d (.fn (.func f) [])))

section
variable (P : Program)
def isAggB (t : TypeId) : Bool := match P.underlying t with
  | some (.struct _) => true
  | some (.array _ _) => true
  | _ => false
def szOf (t : TypeId) : Option Nat := if (P.underlying t).isSome then (P.info? t).map (·.size) else none
def bytesAt (t : TypeId) : Option Nat := (P.info? t).map (·.bytes)
def zeroOf (t : TypeId) : Option (List D) := (P.info? t).bind fun i => i.zero.bind fun z => dsOf z.cells.toList
def zeroVOf (t : TypeId) : Option V := (P.info? t).bind fun i => i.zero.map vOf
/-- The kinds of a type's cells, if all are compared as they lie. -/
def leafAt (t : TypeId) : Option Leaf := match P.underlying t with
  | some .bool => some .b
  | some (.int _) => some .i
  | some .string => some .s
  | _ => none
def leafsOf : List Field → Nat → Option (List Leaf)
  | [], _ => some []
  | f :: l, i => if f.name ≠ "_" ∧ f.offset = i then (leafAt P f.type).bind fun k => (leafsOf l (i + 1)).map (k :: ·) else none
/-- A flat struct's. -/
def flatOf (t : TypeId) : Option (List Leaf) := match P.underlying t with
  | some (.struct fs) => if !P.stoodInHeld t && !P.eqGuardType P.depth t then leafsOf P fs.toList 0 else none
  | _ => none
/-- A key's: is it a struct; the kinds. -/
def keyOf (t : TypeId) : Option (Bool × List Leaf) := match leafAt P t with
  | some k => some (false, [k])
  | none => (flatOf P t).map fun ks => (true, ks)
def partOf (t : TypeId) (p : Nat × Operand) : Option (Nat × Nat × Opd) := match P.underlying t with
  | some (.struct fs) => (fs[p.1]?).bind fun f => (szOf P f.type).map fun n => (f.offset, n, opdOf p.2)
  | some (.array _ e) => (szOf P e).map fun n => (p.1 * n, n, opdOf p.2)
  | _ => none
def partsOf (t : TypeId) : List (Nat × Operand) → Option (List (Nat × Nat × Opd))
  | [] => some []
  | p :: l => (partOf P t p).bind fun q => (partsOf t l).map (q :: ·)

def fieldsOk (t : TypeId) : Bool := match P.underlying t with
  | some (.struct fs) => fs.toList.all fun f => (szOf P f.type).isSome
  | some (.array _ e) => (szOf P e).isSome
  | _ => false

def nkOf : TypeDesc → Option NK
  | .slice _ => some .sl
  | .interface _ => some .ifc
  | .func .. => some .fn
  | .pointer _ => some .ptr
  | _ => none
def isNilC : NK → Operand → Bool
  | .sl, .const (.slice none _ _) => true
  | .ifc, .const .nilIface => true
  | .fn, .const .nilFunc => true
  | .ptr, .const (.pointer none) => true
  | _, _ => false
/-- One operation. 'imm': is a boxed variable never written again? -/
def trOp0 (imm : Bool) (o : Op) : Option MOp := match o with
  | .move x => some (.mv (opdOf x))
  | .assign x => some (.mv (opdOf x))
  | .pick c x y => some (.pick (opdOf c) (opdOf x) (opdOf y))
  | .alloc e => (zeroOf P e).map .alloc
  | .box _ x => some (if imm then .ibox (opdOf x) else .box (opdOf x))
  | .build t ps => if fieldsOk P t then (zeroOf P t).bind fun z => (partsOf P t ps.toList).map fun q => .build z q else none
  | .buildSlice t len ps => match P.underlying t with
    | some (.slice e) => (szOf P e).bind fun n => (zeroOf P e).map fun z => if imm then .bslO n z len (ps.toList.map fun p => (p.1, opdOf p.2)) else .bslice n z len (ps.toList.map fun p => (p.1, opdOf p.2))
    | _ => none
  | .load t x => (szOf P t).map fun n => .load n (isAggB P t) (opdOf x)
  | .store t x y => (szOf P t).map fun n => .store n (opdOf x) (opdOf y)
  | .fieldAddr t x f => match P.underlying t with
    | some (.struct fs) => (fs[f]?).bind fun g => (szOf P g.type).bind fun n => if n = 0 then none else some (.fad g.offset (opdOf x))
    | _ => none
  | .indexAddr t x i => match P.underlying t with
    | some (.slice e) => (szOf P e).map fun n => .iad n (opdOf x) (opdOf i)
    | some (.array len e) => (szOf P e).map fun n => .iadA len n (opdOf x) (opdOf i)
    | _ => none
  | .index t x i => match P.underlying t with
    | some .string => some (.idxS (opdOf x) (opdOf i))
    | _ => none
  | .binOp o t x y _ => match P.underlying t with
    | some (.struct _) => (flatOf P t).bind fun ks => (match o with
        | .eql => some (.eqs false ks (opdOf x) (opdOf y))
        | .neq => some (.eqs true ks (opdOf x) (opdOf y))
        | _ => none)
    | some (.int _) => some (.bin .i o (opdOf x) (opdOf y))
    | some .string => some (.bin .s o (opdOf x) (opdOf y))
    | some .bool => some (.bin .b o (opdOf x) (opdOf y))
    | some d => (nkOf d).bind fun k => if isNilC k y then (match o with
        | .eql => some (.nilq k false (opdOf x))
        | .neq => some (.nilq k true (opdOf x))
        | _ => none) else none
    | _ => none
  | .unOp .not _ x => some (.not (opdOf x))
  | .convert s t x => match P.underlying s, P.underlying t with
    | some (.int _), some (.int k) => some (.conv k (opdOf x))
    | _, _ => none
  | .makeInterface t x => match P.underlying t with
    | some (.interface _) => none
    | none => none
    | _ => some (.mkI t (opdOf x))
  | .makeFunc f first caps => match first.toList with
    | [] => some (.mkF f (caps.toList.map opdOf))
    | [x] => if caps.size = 0 then some (.mkMv f (opdOf x)) else none
    | _ => none
  | .makeMap _ none => some .mkM
  | .lookup t m k ok => match P.underlying t with
    | some (.map kt e) => (keyOf P kt).bind fun q => (zeroVOf P e).map fun z => .lkp ok z q.1 q.2 (opdOf m) (opdOf k)
    | _ => none
  | .mapUpdate t m k v => match P.underlying t with
    | some (.map kt _) => (keyOf P kt).map fun q => .mupd q.1 q.2 (opdOf m) (opdOf k) (opdOf v)
    | _ => none
  | .insert t m k v => match P.underlying t with
    | some (.map kt _) => (keyOf P kt).map fun q => .mupd q.1 q.2 (opdOf m) (opdOf k) (opdOf v)
    | _ => none
  | .makeSlice t l c => match P.underlying t with
    | some (.slice e) => match l, c with
      | .tmp a, .tmp b => if a = b then (szOf P e).bind fun n => (bytesAt P e).bind fun by_ => (zeroOf P e).map fun z => .mkS n by_ z (.t a) else none
      | .const (.int k a), .const (.int _ b) => if a = b then (szOf P e).bind fun n => (bytesAt P e).bind fun by_ => (zeroOf P e).map fun z => .mkS n by_ z (.c (.one (.d (.int k a)))) else none
      | _, _ => none
    | _ => none
  | .slice t x lo hi none => match P.underlying t with
    | some .string => some (.slcS (opdOf x) (lo.map opdOf) (hi.map opdOf))
    | some (.slice e) => (szOf P e).map fun n => .slc n (opdOf x) (lo.map opdOf) (hi.map opdOf)
    | _ => none
  | .extract x i => some (.ext (opdOf x) i)
  | .call { callee := .builtin .len, args, argTypes } => match args.toList, argTypes.toList with
    | [x], [t] => (match P.underlying t with
      | some .string => some (.len .s (opdOf x))
      | some (.slice _) => some (.len .i (opdOf x))
      | some (.map _ _) => some (.len .b (opdOf x))
      | _ => none)
    | _, _ => none
  | .call { callee := .builtin .append, args, argTypes } => match args.toList, argTypes.toList with
    | [x, y], [t, t'] => if t = t' then (match P.underlying t with
      | some (.slice e) => (szOf P e).bind fun n => (bytesAt P e).bind fun by_ => (zeroOf P e).bind fun z => if n = 0 || z.length != n then none else some (.app n by_ (opdOf x) (opdOf y))
      | _ => none) else none
    | _, _ => none
  | .call { callee := .builtin .min, args, .. } => match args.toList with
    | [x, y] => some (.min (opdOf x) (opdOf y))
    | _ => none
  | .call { callee := .builtin .max, args, .. } => match args.toList with
    | [x, y] => some (.max (opdOf x) (opdOf y))
    | _ => none
  | .range t x => match P.underlying t with
    | some .string => some (.rng (opdOf x))
    | _ => none
  | .next x true => some (.nxt (opdOf x))
  | .typeAssert x _ t ok => match P.underlying t with
    | some (.interface _) => none
    | none => none
    | _ => (zeroVOf P t).map fun z => .tas t ok z (opdOf x)
  | _ => none

/-- One operation, calls among them. -/
def trOp (imm : Bool) (o : Op) : Option MOp := match o with
  | .call { callee := .value (.func f), args, .. } => some (.call f (args.toList.map opdOf))
  | .call { callee := .value g, args, .. } => some (.callv (opdOf g) (args.toList.map opdOf))
  | o => trOp0 P imm o

/-- An operation, with the look that is had ahead of it, and the slot that it writes. -/
structure Rc where
  g : Option (Nat × Bool)
  d : Option Nat
  o : MOp
/-- A region's operations; 'hs': the slots of boxed variables that are never written again. -/
def trRc (hs : List Nat) (ops : Array Oper) (o : Oper) : Option Rc :=
  (trOp P (match o.dst with | some d => hs.contains d | none => false) o.op).bind fun m => match o.guard with
    | none => some ⟨none, o.dst, m⟩
    | some (j, b) => ((ops[j]?).bind (·.dst)).map fun t => ⟨some (t, b), o.dst, m⟩
def trRcs (hs : List Nat) (ops : Array Oper) : List Oper → Option (List Rc)
  | [] => some []
  | o :: l => (trRc P hs ops o).bind fun r => (trRcs hs ops l).map (r :: ·)
def mosOf : List Rc → List MO
  | [] => []
  | ⟨none, d, o⟩ :: l => .op d o :: mosOf l
  | ⟨some (t, b), d, o⟩ :: l => .chk t b d :: .op d o :: mosOf l

/-! When a region draws its order: what is asked of its operations (part 15). -/
inductive Kind where
  | free | read | eff | alloc
def kindOf : MOp → Kind
  | .alloc _ => .alloc
  | .box _ => .alloc
  | .mkM => .alloc
  | .mkS .. => .alloc
  | .store .. => .eff
  | .mupd .. => .eff
  | .rng _ => .eff
  | .nxt _ => .eff
  | .app .. => .eff
  | .bslO .. => .eff
  | .load .. => .read
  | .lkp .. => .read
  | .iad .. => .read
  | .slc .. => .read
  | .len .. => .read
  | .call .. => .read
  | .callv .. => .read
  | _ => .free
def orderOk : Kind → Kind → Bool
  | .free, _ => true
  | _, .free => true
  | .read, .read => true
  | .read, .alloc => true
  | .alloc, .read => true
  | _, _ => false
def slotOf : Opd → Option Nat
  | .t n => some n
  | .c _ => none
def opdL : Option Opd → List Opd
  | some x => [x]
  | none => []
def MOp.opds : MOp → List Opd
  | .mv x => [x]
  | .pick c x y => [c, x, y]
  | .alloc _ => []
  | .box x => [x]
  | .ibox x => [x]
  | .build _ ps => ps.map fun p => p.2.2
  | .bslice _ _ _ ps => ps.map fun p => p.2
  | .bslO _ _ _ ps => ps.map fun p => p.2
  | .load _ _ x => [x]
  | .store _ x y => [x, y]
  | .fad _ x => [x]
  | .iad _ x i => [x, i]
  | .iadA _ _ x i => [x, i]
  | .idxS x i => [x, i]
  | .len _ x => [x]
  | .app _ _ x y => [x, y]
  | .min x y => [x, y]
  | .max x y => [x, y]
  | .bin _ _ x y => [x, y]
  | .eqs _ _ x y => [x, y]
  | .nilq _ _ x => [x]
  | .not x => [x]
  | .conv _ x => [x]
  | .mkI _ x => [x]
  | .mkF _ l => l
  | .mkMv _ x => [x]
  | .mkM => []
  | .lkp _ _ _ _ m k => [m, k]
  | .mupd _ _ m k v => [m, k, v]
  | .mkS _ _ _ l => [l]
  | .slcS x lo hi => x :: (opdL lo ++ opdL hi)
  | .slc _ x lo hi => x :: (opdL lo ++ opdL hi)
  | .ext x _ => [x]
  | .call _ l => l
  | .callv g l => g :: l
  | .rng x => [x]
  | .nxt x => [x]
  | .tas _ _ _ x => [x]
/-- The slots that an operation looks at. -/
def Rc.slots (r : Rc) : List Nat := (match r.g with | some (t, _) => [t] | none => []) ++ r.o.opds.filterMap slotOf
/-- Ahead of which operations does one stand? One mask each. -/
def edgesOf (o : Oper) : List Nat := (o.after.toList.filter (Region.binds .any)).map (·.on)
def maskOf (acc : List Nat) : List Nat → Nat
  | [] => 0
  | i :: l => 2 ^ i ||| acc.getD i 0 ||| maskOf acc l
def masksOf : List Oper → List Nat → List Nat
  | [], acc => acc
  | o :: l, acc => masksOf l (acc ++ [maskOf acc (edgesOf o)])
/-- May operation i come ahead of j, or behind it? (i < j) -/
def pairOk (ms : List Nat) (i j : Nat) (x y : Rc) : Bool :=
  (match x.d, y.d with | some a, some b => a != b | _, _ => true) &&
  ((ms.getD j 0).testBit i || (orderOk (kindOf x.o) (kindOf y.o) && (match y.d with | some b => !(x.slots.contains b) | none => true) && (match x.d with | some a => !(y.slots.contains a) | none => true)))
def pairsOk (ms : List Nat) (i : Nat) (x : Rc) : Nat → List Rc → Bool
  | _, [] => true
  | j, y :: l => pairOk ms i j x y && pairsOk ms i x (j + 1) l
def A.refs0 : A → List Nat
  | .own i _ => [i]
  | .ptr i _ => [i]
  | .rp i .. => [i]
  | _ => []
def A.refs : A → List Nat
  | .clo _ caps => caps.flatMap A.refs0
  | .mvo _ _ rcv => rcv.flatMap A.refs0
  | .ifo _ a => a.refs0
  | a => a.refs0
def V.refs : V → List Nat
  | .one a => a.refs
  | .agg l => l.flatMap A.refs
  | _ => []

def V.refs0 : V → List Nat
  | .one a => a.refs0
  | .agg l => l.flatMap A.refs0
  | _ => []
/-- Tuples too. -/
def V.refsT : V → List Nat
  | .tup l => l.flatMap V.refs
  | v => v.refs
def Opd.plain : Opd → Bool
  | .t _ => true
  | .c v => v.refs.isEmpty
def drawnOk (ms : List Nat) : Nat → List Rc → Bool
  | _, [] => true
  | i, x :: l => x.o.opds.all Opd.plain && pairsOk ms i x (i + 1) l && drawnOk ms (i + 1) l
def edgesOk : Nat → List Oper → Bool
  | _, [] => true
  | i, o :: l => ((edgesOf o).all fun e => decide (e < i)) && edgesOk (i + 1) l
def trR (hs : List Nat) (ops : Array Oper) : Bool → Option (List MO)
  | false => (trRcs P hs ops ops.toList).map mosOf
  | true => (trRcs P hs ops ops.toList).bind fun rs => if P.follows .mixedOrders && edgesOk 0 ops.toList && drawnOk (masksOf ops.toList []) 0 rs then some (mosOf rs) else none

def trC (hs : List Nat) : Code → Option MC
  | .skip => some .skip
  | .region _ ops d => (trR P hs ops d).map (.reg d)
  | .seq a b => (trC hs a).bind fun x => (trC hs b).map (.seq x)
  | .cond c a b => (trC hs a).bind fun x => (trC hs b).map (.cond (opdOf c) x)
  | .block id b => (trC hs b).map (.blk id)
  | .loop b => (trC hs b).map .loop
  | .rangeFunc f ps a b => (trC hs a).bind fun x => (trC hs b).map (.rf (opdOf f) ps.toList x)
  | .exit id => some (.exit id)
  | .scope b => (trC hs b).map .scope
  | .label _ => some .skip
  | .goto _ => none
  | .ret => some .ret
  | .refuse _ => none
end

/-- Where results lie. -/
inductive RV where
  | t (n : Nat)
  | cell (n sz : Nat) (ag : Bool)
def rsOf (P : Program) : List ResultVar → Option (List RV)
  | [] => some []
  | .tmp t :: l => (rsOf P l).map (.t t :: ·)
  | .cell t ty :: l => (szOf P ty).bind fun n => if isAggB P ty || n == 1 then (rsOf P l).map (.cell t n (isAggB P ty) :: ·) else none

/-! ### The symbolic state -/
structure St where
  fr : List V
  own : List Ch

def getV : List V → Nat → V
  | [], _ => .un
  | v :: _, 0 => v
  | _ :: l, n + 1 => getV l n
def setV : List V → Nat → V → List V
  | [], _, _ => []
  | _ :: l, 0, v => v :: l
  | u :: l, n + 1, v => u :: setV l n v
def getC : List Ch → Nat → Ch
  | [], _ => .dead
  | v :: _, 0 => v
  | _ :: l, n + 1 => getC l n
def setC : List Ch → Nat → Ch → List Ch
  | [], _, _ => []
  | _ :: l, 0, v => v :: l
  | u :: l, n + 1, v => u :: setC l n v
def evO (fr : List V) : Opd → V
  | .t n => getV fr n
  | .c v => v
def putV (fr : List V) (d : Option Nat) (v : V) : List V := match d with
  | some d => setV fr d v
  | none => fr
def V.cells : V → List A
  | .one a => [a]
  | .agg l => l
  | _ => []
/-- Is a value known, and no tuple? -/
def V.ok : V → Bool
  | .one a => a.solid
  | .agg _ => true
  | _ => false
def mkV (ag : Bool) (l : List A) : V := match ag, l with
  | true, l => .agg l
  | false, [a] => .one a
  | _, _ => .un
/-- Cells that are all data. -/
def allD : List A → Option (List D)
  | [] => some []
  | .d x :: l => (match allD l with | some r => some (x :: r) | none => none)
  | .nil :: l => (match allD l with | some r => some (.sl [] :: r) | none => none)
  | _ :: _ => none
/-- nil as data. -/
def A.nrm : A → A
  | .nil => .d (.sl [])
  | a => a
def V.nrm : V → V
  | .one a => .one a.nrm
  | .agg l => .agg (l.map A.nrm)
  | v => v
def V.nrm2 : V → V
  | .tup l => .tup (l.map V.nrm)
  | v => v.nrm
def solidAll : List A → Bool
  | [] => true
  | .un :: _ => false
  | _ :: l => solidAll l
/-- Are data's cells the same? -/
def eqL : Leaf → A → A → Option Bool
  | .i, .d (.int j a), .d (.int k b) => if j = k then some (a == b) else none
  | .b, .d (.bool a), .d (.bool b) => some (a == b)
  | .s, .d (.str a), .d (.str b) => some (decide (a = b))
  | _, _, _ => none
def eqLs : List Leaf → List A → List A → Option Bool
  | [], [], [] => some true
  | k :: ks, x :: l, y :: m => (match eqL k x y, eqLs ks l m with
    | some a, some b => some (a && b)
    | _, _ => none)
  | _, _, _ => none
def eqV (kag : Bool) (ks : List Leaf) : V → V → Option Bool
  | .one a, .one b => if kag then none else eqLs ks [a] [b]
  | .agg a, .agg b => if kag then eqLs ks a b else none
  | _, _ => none
/-- What stands under a key. -/
def findV (kag : Bool) (ks : List Leaf) : List (V × V) → V → Option (Option V)
  | [], _ => some none
  | (k, v) :: l, x => (match eqV kag ks x k with
    | some true => some (some v)
    | some false => findV kag ks l x
    | none => none)
def putM (kag : Bool) (ks : List Leaf) : List (V × V) → V → V → Option (List (V × V))
  | [], x, v => some [(x, v)]
  | (k, u) :: l, x, v => (match eqV kag ks x k with
    | some true => some ((x, v) :: l)
    | some false => (match putM kag ks l x v with | some r => some ((k, u) :: r) | none => none)
    | none => none)
end Go.Fw
