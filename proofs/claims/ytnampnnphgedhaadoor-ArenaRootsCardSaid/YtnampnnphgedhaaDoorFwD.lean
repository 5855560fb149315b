/- The framework, part 4: what operations make of values ('Ev'); what must be shown of a region ('vcOps'). -/
import Derived.Test.YtnampnnphgedhaaDoorFwC
set_option linter.all false
namespace Go.Fw
open Go

/-- A number of a kind. -/
def inK (k : IntKind) (n : Int) : Prop := k.min ≤ n ∧ n ≤ k.max
def bitI (o : BinOp) (k : IntKind) (x y : Int) : Int :=
  let a := BitVec.ofInt k.bits x
  let b := BitVec.ofInt k.bits y
  match o with
  | .and => k.wrap (a &&& b).toNat
  | .or => k.wrap (a ||| b).toNat
  | .xor => k.wrap (a ^^^ b).toNat
  | _ => k.wrap (a &&& ~~~b).toNat
/-- An operation on two numbers: what it asks; what it gives. -/
def binI (o : BinOp) (k : IntKind) (a b : Int) : Prop × D := match o with
  | .eql => (True, .bool (a == b))
  | .neq => (True, .bool (a != b))
  | .lss => (True, .bool (decide (a < b)))
  | .leq => (True, .bool (decide (a ≤ b)))
  | .gtr => (True, .bool (decide (a > b)))
  | .geq => (True, .bool (decide (a ≥ b)))
  | .add => (inK k (a + b), .int k (a + b))
  | .sub => (inK k (a - b), .int k (a - b))
  | .mul => (inK k (a * b), .int k (a * b))
  | .quo => (b ≠ 0 ∧ inK k (a.tdiv b), .int k (a.tdiv b))
  | .rem => (b ≠ 0, .int k (a.tmod b))
  | .shl => (0 ≤ b, .int k (k.wrap (a * 2 ^ (min b.toNat k.bits))))
  | .shr => (0 ≤ b, .int k (a.fdiv (2 ^ (min b.toNat k.bits))))
  | .and => (True, .int k (bitI .and k a b))
  | .or => (True, .int k (bitI .or k a b))
  | .xor => (True, .int k (bitI .xor k a b))
  | .andNot => (True, .int k (bitI .andNot k a b))
def binS (o : BinOp) (a b : ByteArray) : Prop × D := match o with
  | .eql => (True, .bool (decide (a = b)))
  | .neq => (True, .bool (!(decide (a = b))))
  | .lss => (True, .bool (Op.bytesLess a.toList b.toList))
  | .leq => (True, .bool (Op.bytesLess a.toList b.toList || decide (a = b)))
  | .gtr => (True, .bool (!(Op.bytesLess a.toList b.toList || decide (a = b))))
  | .geq => (True, .bool (!(Op.bytesLess a.toList b.toList)))
  | .add => (((a.size + b.size : Nat) : Int) ≤ 9223372036854775807, .str (a ++ b))
  | _ => (False, .bool false)
def binB (o : BinOp) (a b : Bool) : Prop × D := match o with
  | .eql => (True, .bool (a == b))
  | .neq => (True, .bool (!(a == b)))
  | _ => (False, .bool false)
def isSh : BinOp → Bool
  | .shl => true
  | .shr => true
  | _ => false
def binD (kd : Leaf) (o : BinOp) (x y : V) : Prop × D := match kd, x, y with
  | .i, .one (.d (.int k a)), .one (.d (.int k' b)) => if isSh o = true ∨ k = k' then binI o k a b else (False, .nilP)
  | .s, .one (.d (.str a)), .one (.d (.str b)) => binS o a b
  | .b, .one (.d (.bool a)), .one (.d (.bool b)) => binB o a b
  | _, _, _ => (False, .nilP)

def zList (z : List D) : Nat → List (List D)
  | 0 => []
  | n + 1 => z :: zList z n
/-- Elements are laid over zero ones. -/
def layE (ev : Opd → V) (sz : Nat) : List (List D) → List (Nat × Opd) → Option (List (List D))
  | z, [] => some z
  | z, (i, x) :: l => match allD (ev x).cells with
    | some cs => if cs.length = sz ∧ i < z.length then layE ev sz (z.set i cs) l else none
    | none => none
def layF (ev : Opd → V) : List A → List (Nat × Nat × Opd) → Option (List A)
  | z, [] => some z
  | z, (off, n, x) :: l => let cs := (ev x).cells; if cs.length = n ∧ off + n ≤ z.length then layF ev (z.take off ++ cs ++ z.drop (off + n)) l else none
/-- Captured values: data, or own ones. -/
def capsD : List V → Option (List D)
  | [] => some []
  | .one (.d x) :: l => (match capsD l with | some r => some (x :: r) | none => none)
  | _ :: _ => none
def A.low : A → Bool
  | .d _ => true
  | .nil => true
  | .own .. => true
  | .ptr .. => true
  | .rp .. => true
  | _ => false
def capsA : List V → Option (List A)
  | [] => some []
  | .one x :: l => if x.low then (match capsA l with | some r => some (x :: r) | none => none) else none
  | _ :: _ => none
def clov (f : Go.Fn) (l : List V) : Option A := match capsD l with
  | some ds => some (.d (.fn f ds))
  | none => match capsA l with
    | some as => some (.clo f as)
    | none => none
def mvv (f : Go.Fn) : V → Option A
  | .one (.d x) => some (.d (.mv f false [x]))
  | .one x => if x.low then some (.mvo f false [x]) else none
  | .agg cs => (match allD cs with
    | some ds => some (.d (.mv f true ds))
    | none => if cs.all A.low then some (.mvo f true cs) else none)
  | _ => none
def ifv (t : TypeId) : V → Option A
  | .one (.d x) => some (.d (.ifc t false [x]))
  | .one x => if x.low then some (.ifo t x) else none
  | .agg cs => (match allD cs with
    | some ds => some (.d (.ifc t true ds))
    | none => none)
  | _ => none
/-- A bound of a slice expression. -/
def boundV (ev : Opd → V) (o : Option Opd) (dflt : Nat) (n : Nat) : Prop := match o with
  | none => n = dflt
  | some x => match ev x with
    | .one (.d (.int _ i)) => i = n
    | _ => False
/-- Which function a value calls, with what ahead of and behind its arguments. -/
def calleeV : V → List V → Option (FuncId × List V)
  | .one (.d (.fn (.func f) caps)), args => some (f, args ++ caps.map fun x => .one (.d x))
  | .one (.d (.mv (.func f) false [x])), args => some (f, .one (.d x) :: args)
  | .one (.d (.mv (.func f) true cs)), args => some (f, .agg (cs.map .d) :: args)
  | .one (.clo (.func f) caps), args => some (f, args ++ caps.map .one)
  | .one (.mvo (.func f) false [x]), args => some (f, .one x :: args)
  | .one (.mvo (.func f) true cs), args => some (f, .agg cs :: args)
  | _, _ => none

/-- A length. -/
def LenV (kd : Leaf) (x : V) (own : List Ch) (v : V) : Prop := match kd, x with
  | .s, .one (.d (.str s)) => v = .one (.d (.int .i64 s.size))
  | .i, .one (.d (.sl xs)) => v = .one (.d (.int .i64 xs.length))
  | .i, .one (.own j ver) => (match getC own j with
    | .row _ ver' xs => ver' = ver ∧ v = .one (.d (.int .i64 xs.length))
    | _ => False)
  | .b, .one (.own j 0) => (match getC own j with
    | .map es => v = .one (.d (.int .i64 es.length))
    | _ => False)
  | _, _ => False

/-- What is lent to a call: data; own rows and boxes, as data. -/
def lendA (own : List Ch) : A → Option D
  | .d x => some x
  | .nil => some (.sl [])
  | .own j ver => (match getC own j with
    | .row _ ver' xs => if ver' = ver then some (.sl xs) else none
    | _ => none)
  | .ptr j off => (match getC own j with
    | .cells cs => (match allD cs with | some ds => some (.bx (ds.drop off)) | none => none)
    | _ => none)
  | _ => none
def lendAs (own : List Ch) : List A → Option (List D)
  | [] => some []
  | a :: l => (match lendA own a, lendAs own l with
    | some x, some r => some (x :: r)
    | _, _ => none)
def lendV (own : List Ch) : V → Option V
  | .one a => (match lendA own a with | some x => some (.one (.d x)) | none => none)
  | .agg l => (match lendAs own l with | some r => some (.agg (r.map .d)) | none => none)
  | _ => none
def lendL (own : List Ch) : List V → Option (List V)
  | [] => some []
  | v :: l => (match lendV own v, lendL own l with
    | some x, some r => some (x :: r)
    | _, _ => none)
def A.data : A → Bool
  | .d _ => true
  | .nil => true
  | _ => false
def V.data : V → Bool
  | .one a => a.data
  | .agg l => l.all A.data
  | _ => false
/-- Data that lead to no memory. -/
def D.scal : D → Bool
  | .int .. => true
  | .bool _ => true
  | .str _ => true
  | .nilI => true
  | .nilF => true
  | .nilP => true
  | .raw _ => true
  | _ => false
def A.scal : A → Bool
  | .d x => x.scal
  | .un => true
  | _ => false
def V.scal1 : V → Bool
  | .one a => a.scal
  | .agg l => l.all A.scal
  | .un => true
  | _ => false
def V.scal : V → Bool
  | .tup l => l.all V.scal1
  | v => v.scal1
/-- A call: what it is lent; what comes back. -/
def CallV (S : Sx) (f : FuncId) (args : List V) (own : List Ch) (v : V) : Prop :=
  ∃ l, lendL own args = some l ∧ Does S.P S.gp f l v ∧ (args.all V.data = true ∨ v.scal = true)

/-- One own chunk handed to a call, to be written: it is the callee's first. -/
def renA (j : Nat) : A → Option A
  | .d x => some (.d x)
  | .nil => some (.d (.sl []))
  | .own i ver => if i = j then some (.own 0 ver) else none
  | .ptr i off => if i = j then some (.ptr 0 off) else none
  | .ifo t (.ptr i off) => if i = j then some (.ifo t (.ptr 0 off)) else none
  | _ => none
def renAs (j : Nat) : List A → Option (List A)
  | [] => some []
  | a :: l => (match renA j a, renAs j l with
    | some x, some r => some (x :: r)
    | _, _ => none)
def renV (j : Nat) : V → Option V
  | .one a => (match renA j a with | some x => some (.one x) | none => none)
  | .agg l => (match renAs j l with | some r => some (.agg r) | none => none)
  | _ => none
def renL (j : Nat) : List V → Option (List V)
  | [] => some []
  | v :: l => (match renV j v, renL j l with
    | some x, some r => some (x :: r)
    | _, _ => none)
/-- What comes back, told by the caller's number. -/
def backA (j : Nat) : A → A
  | .own 0 ver => .own j ver
  | .ptr 0 off => .ptr j off
  | .d x => .d x
  | .nil => .nil
  | _ => .un
def back1 (j : Nat) : V → V
  | .one a => .one (backA j a)
  | .agg l => .agg (l.map (backA j))
  | _ => .un
def backV (j : Nat) : V → V
  | .tup l => .tup (l.map (back1 j))
  | v => back1 j v
def Ch.live : Ch → Bool
  | .dead => false
  | _ => true
/-- A call that writes one own chunk. -/
def CallM (S : Sx) (f : FuncId) (args : List V) (own : List Ch) (j : Nat) (v0 : V) (c' : Ch) : Prop :=
  ∃ l, renL j args = some l ∧ (args.flatMap V.refs).contains j = true ∧ (getC own j).live = true ∧ (getC own j).refs = [] ∧ c'.refs = [] ∧ callable S.P f = true ∧ Tri S.P S.gp f l [getC own j] (fun r post => r = v0 ∧ post = [c'])

/-- A call that is handed all own chunks, by their own numbers. -/
def CallA (S : Sx) (f : FuncId) (args : List V) (own : List Ch) (v : V) (own1 : List Ch) : Prop :=
  callable S.P f = true ∧ Tri S.P S.gp f args own fun r post => r = v ∧ post = own1
/-- How a round ends; what yield hands back; which jump is pending. -/
def roundEnd : Exit → Bool → Option Code → Prop
  | .normal, b, j => b = true ∧ j = none
  | .ret, b, j => b = false ∧ j = some .ret
  | .exit id, b, j => b = false ∧ j = some (.exit id)
  | _, _, _ => False
/-- A round's parameters. -/
def setPs : List V → List Nat → List V → List V
  | fr, p :: ps, v :: vs => setPs (setV fr p v) ps vs
  | fr, _, _ => fr
/-- What a round is about. -/
def rndS (S : Sx) (n : Nat) : Sx := ⟨S.P, S.gp, n, [], fun _ _ => False, true⟩
/-- A round, as yield is called: the loop's record is ready; its body leaves chunks. -/
def RoundOK (S : Sx) (l : Nat) (args : List V) (own own1 : List Ch) (b : Bool) : Prop :=
  ∃ i fr rc hs ma mb own2 jump, getC own i = .lp l fr rc .ready none ∧ args.length = rc.params.size ∧ trC S.P hs rc.assign = some ma ∧ trC S.P hs rc.body = some mb ∧
    G (rndS S own.length) [.code ma, .rnd fun e s1 => e = .normal ∧ G (rndS S own.length) [.code mb, .rnd fun e s2 => roundEnd e b jump ∧ s2.own = own2] s1] ⟨setPs fr rc.params.toList args, setC own i .dead⟩ ∧
    getC own2 i = .dead ∧ own1 = setC own2 i (.lp l fr rc (if jump.isNone then .ready else .done) jump)

/-- Is a value nil, as far as it is known? -/
def nilD : NK → V → Option Bool
  | .sl, .one (.d (.raw (.slice none _ _))) => some true
  | .sl, .one (.d (.raw (.slice (some _) _ _))) => some false
  | .sl, .one (.d (.sl (_ :: _))) => some false
  | .ifc, .one (.d .nilI) => some true
  | .ifc, .one (.d (.ifc ..)) => some false
  | .ifc, .one (.ifo ..) => some false
  | .fn, .one (.d .nilF) => some true
  | .fn, .one (.d (.fn ..)) => some false
  | .fn, .one (.d (.mv ..)) => some false
  | .fn, .one (.clo ..) => some false
  | .ptr, .one (.d .nilP) => some true
  | .ptr, .one (.d (.bx _)) => some false
  | .ptr, .one (.ptr ..) => some false
  | .ptr, .one (.rp ..) => some false
  | _, _ => none
/-- WHAT AN OPERATION MAY MAKE: of operands' values and own chunks a value, and chunks. (Calls stand apart.) -/
def Ev (S : Sx) (o : MOp) (ev : Opd → V) (own : List Ch) (v : V) (own' : List Ch) : Prop := match o with
  | .mv x => v = ev x ∧ own' = own
  | .pick c x y => own' = own ∧ match ev c with
    | .one (.d (.bool b)) => v = if b then ev x else ev y
    | _ => False
  | .alloc z => own' = own ++ [.cells (z.map A.ofZ)] ∧ v = .one (.ptr own.length 0)
  | .box x => (ev x).ok = true ∧ solidAll (ev x).cells = true ∧ own' = own ++ [.cells (ev x).cells] ∧ v = .one (.ptr own.length 0)
  | .ibox x => (ev x).ok = true ∧ own' = own ∧ ∃ ds, allD (ev x).cells = some ds ∧ v = .one (.d (.bx ds))
  | .build z ps => own' = own ∧ ∃ cs, layF ev (z.map A.ofZ) ps = some cs ∧ (ps.all fun p => (ev p.2.2).ok) = true ∧ v = .agg cs
  | .bslice sz z n ps => own' = own ∧ z.length = sz ∧ n * sz ≤ 16777216 ∧ 0 < sz ∧ ∃ xs, layE ev sz (zList z n) ps = some xs ∧ (ps.all fun p => (ev p.2).ok) = true ∧ v = .one (.d (.sl xs))
  | .bslO sz z n ps => z.length = sz ∧ n * sz ≤ 16777216 ∧ 0 < sz ∧ ∃ xs, layE ev sz (zList z n) ps = some xs ∧ (ps.all fun p => (ev p.2).ok) = true ∧ own' = own ++ [.row sz 0 xs] ∧ v = .one (.own own.length 0)
  | .load n ag x => own' = own ∧ (ag = true ∨ n = 1) ∧ match ev x with
    | .one (.ptr i off) => (match getC own i with
      | .cells cs => off + n ≤ cs.length ∧ v = mkV ag ((cs.drop off).take n)
      | _ => False)
    | .one (.d (.bx cs)) => n ≤ cs.length ∧ v = mkV ag ((cs.take n).map .d)
    | .one (.rp i ver sz e off) => (match getC own i with
      | .row sz' ver' xs => sz' = sz ∧ ver' = ver ∧ ∃ x, xs[e]? = some x ∧ off + n ≤ x.length ∧ v = mkV ag (((x.drop off).take n).map .d)
      | _ => False)
    | .one (.d (.raw (.pointer (some ⟨g, 0, none⟩)))) => ∃ cells T fz ds, S.gp g = some (.cells cells T fz) ∧ dsOf cells.toList = some ds ∧ n ≤ ds.length ∧ v = mkV ag ((ds.take n).map .d)
    | _ => False
  | .store n x y => (ev y).ok = true ∧ (ev y).cells.length = n ∧ v = .un ∧ match ev x with
    | .one (.ptr i off) => (match getC own i with
      | .cells cs => off + n ≤ cs.length ∧ solidAll (ev y).cells = true ∧ own' = setC own i (.cells (cs.take off ++ (ev y).cells ++ cs.drop (off + n)))
      | _ => False)
    | .one (.rp i ver sz e off) => (match getC own i with
      | .row sz' ver' xs => sz' = sz ∧ ver' = ver ∧ ∃ x ds, xs[e]? = some x ∧ off + n ≤ x.length ∧ allD (ev y).cells = some ds ∧ own' = setC own i (.row sz ver (xs.set e (x.take off ++ ds ++ x.drop (off + n))))
      | _ => False)
    | _ => False
  | .fad off x => own' = own ∧ match ev x with
    | .one (.ptr i o) => v = .one (.ptr i (o + off))
    | .one (.d (.bx cs)) => v = .one (.d (.bx (cs.drop off)))
    | .one (.rp i ver sz e o) => v = .one (.rp i ver sz e (o + off))
    | _ => False
  | .iad sz x i => own' = own ∧ match ev x, ev i with
    | .one (.d (.sl xs)), .one (.d (.int _ n)) => ∃ cs, 0 ≤ n ∧ xs[n.toNat]? = some cs ∧ cs.length = sz ∧ v = .one (.d (.bx cs))
    | .one (.own j ver), .one (.d (.int _ n)) => (match getC own j with
      | .row sz' ver' xs => sz' = sz ∧ ver' = ver ∧ 0 ≤ n ∧ n.toNat < xs.length ∧ v = .one (.rp j ver sz n.toNat 0)
      | _ => False)
    | _, _ => False
  | .iadA len sz x i => own' = own ∧ match ev x, ev i with
    | .one (.ptr j off), .one (.d (.int _ n)) => ∃ m : Nat, n = m ∧ m < len ∧ v = .one (.ptr j (off + m * sz))
    | .one (.d (.bx cs)), .one (.d (.int _ n)) => ∃ m : Nat, n = m ∧ m < len ∧ v = .one (.d (.bx (cs.drop (m * sz))))
    | .one (.d (.raw (.pointer (some ⟨g, 0, none⟩)))), .one (.d (.int _ n)) => ∃ (m : Nat) (cells : Array Value) (T : TypeId) (fz : Nat × Nat) (ds : List D), n = m ∧ m < len ∧ S.gp g = some (.cells cells T fz) ∧ dsOf cells.toList = some ds ∧ v = .one (.d (.bx (ds.drop (m * sz))))
    | _, _ => False
  | .idxS x i => own' = own ∧ match ev x, ev i with
    | .one (.d (.str s)), .one (.d (.int _ n)) => ∃ (m : Nat) (b : UInt8), n = m ∧ s[m]? = some b ∧ v = .one (.d (.int .u8 b.toNat))
    | _, _ => False
  | .len kd x => own' = own ∧ LenV kd (ev x).nrm own v
  | .app sz bytes x y => match (ev y).nrm with
    | .one (.d (.sl ys)) => (∀ q ∈ ys, q.length = sz) ∧ (match ev x with
      | .one .nil => 0 < sz ∧ ys.length * bytes ≤ 140737488355328 ∧ ys.length < lenMax ∧ own' = own ++ [.row sz 0 ys] ∧ v = .one (.own own.length 0)
      | .one (.own j ver) => (match getC own j with
        | .row sz' ver' xs => sz' = sz ∧ ver' = ver ∧ (xs.length + ys.length) * bytes ≤ 140737488355328 ∧ xs.length + ys.length < lenMax ∧ own' = setC own j (.row sz (ver + 1) (xs ++ ys)) ∧ v = .one (.own j (ver + 1))
        | _ => False)
      | _ => False)
    | _ => False
  | .min x y => own' = own ∧ match ev x, ev y with
    | .one (.d (.int k a)), .one (.d (.int _ b)) => v = .one (.d (.int k (if b < a then b else a)))
    | _, _ => False
  | .max x y => own' = own ∧ match ev x, ev y with
    | .one (.d (.int k a)), .one (.d (.int _ b)) => v = .one (.d (.int k (if a < b then b else a)))
    | _, _ => False
  | .bin kd o x y => own' = own ∧ (binD kd o (ev x) (ev y)).1 ∧ v = .one (.d (binD kd o (ev x) (ev y)).2)
  | .eqs neg ks x y => own' = own ∧ match ev x, ev y with
    | .agg a, .agg b => ∃ r, eqLs ks a b = some r ∧ v = .one (.d (.bool (if neg then !r else r)))
    | _, _ => False
  | .nilq kd neg x => own' = own ∧ ∃ r, nilD kd (ev x) = some r ∧ v = .one (.d (.bool (if neg then !r else r)))
  | .not x => own' = own ∧ match ev x with
    | .one (.d (.bool b)) => v = .one (.d (.bool !b))
    | _ => False
  | .conv k x => own' = own ∧ match ev x with
    | .one (.d (.int _ n)) => inK k n ∧ v = .one (.d (.int k n))
    | _ => False
  | .mkI t x => own' = own ∧ ∃ r, ifv t (ev x) = some r ∧ v = .one r
  | .mkF f caps => own' = own ∧ ∃ r, clov f (caps.map ev) = some r ∧ v = .one r
  | .mkMv f x => own' = own ∧ ∃ r, mvv f (ev x) = some r ∧ v = .one r
  | .mkM => own' = own ++ [.map []] ∧ v = .one (.own own.length 0)
  | .lkp ok z kag ks m k => own' = own ∧ ∃ r u, (match ev m with
      | .one (.own j 0) => (match getC own j with
        | .map es => findV kag ks es (ev k) = some r
        | _ => False)
      | .one (.d (.raw (.map none))) => r = none
      | _ => False) ∧ eqV kag ks (ev k) (ev k) ≠ none ∧ u = r.getD z ∧ u.ok = true ∧ v = if ok then .tup [u, .one (.d (.bool r.isSome))] else u
  | .mupd kag ks m k x => v = .un ∧ eqV kag ks (ev k) (ev k) ≠ none ∧ (ev k).ok = true ∧ (ev x).ok = true ∧ match ev m with
    | .one (.own j 0) => (match getC own j with
      | .map es => ∃ r, putM kag ks es (ev k) (ev x) = some r ∧ own' = setC own j (.map r)
      | _ => False)
    | _ => False
  | .mkS sz bytes z l => match ev l with
    | .one (.d (.int _ n)) => 0 ≤ n ∧ 0 < sz ∧ z.length = sz ∧ n * bytes ≤ 140737488355328 ∧ n < lenMax ∧ own' = own ++ [.row sz 0 (List.replicate n.toNat z)] ∧ v = .one (.own own.length 0)
    | _ => False
  | .slcS x lo hi => own' = own ∧ match ev x with
    | .one (.d (.str s)) => ∃ l h : Nat, boundV ev lo 0 l ∧ boundV ev hi s.size h ∧ l ≤ h ∧ h ≤ s.size ∧ v = .one (.d (.str (s.extract l h)))
    | _ => False
  | .slc sz x lo hi => match (ev x).nrm with
    | .one (.d (.sl xs)) => own' = own ∧ ∃ l h : Nat, boundV ev lo 0 l ∧ boundV ev hi xs.length h ∧ l ≤ h ∧ h ≤ xs.length ∧ (∀ q ∈ xs, q.length = sz) ∧ v = .one (.d (.sl ((xs.take h).drop l)))
    | .one (.own j ver) => (match getC own j with
      | .row sz' ver' xs => sz' = sz ∧ ver' = ver ∧ ∃ l h : Nat, boundV ev lo 0 l ∧ boundV ev hi xs.length h ∧ l ≤ h ∧ h ≤ xs.length ∧ own' = setC own j (.row sz (ver + 1) ((xs.take h).drop l)) ∧ v = .one (.own j (ver + 1))
      | _ => False)
    | _ => False
  | .ext x i => own' = own ∧ match ev x with
    | .tup l => v = getV l i ∧ i < l.length
    | _ => False
  | .rng x => match ev x with
    | .one (.d (.str s)) => own' = own ++ [.siter s 0] ∧ v = .one (.own own.length 0)
    | _ => False
  | .nxt x => match ev x with
    | .one (.own j 0) => (match getC own j with
      | .siter s pos => if pos < s.size then own' = setC own j (.siter s (pos + (Utf8.decode s pos).2)) ∧ v = .tup [.one (.d (.bool true)), .one (.d (.int .i64 pos)), .one (.d (.int .i32 (Utf8.decode s pos).1))]
          else own' = own ∧ v = .tup [.one (.d (.bool false))]
      | _ => False)
    | _ => False
  | .tas t ok z x => own' = own ∧ match ev x with
    | .one (.d (.ifc t' ag cs)) => if t' = t then v = (if ok then .tup [mkV ag (cs.map .d), .one (.d (.bool true))] else mkV ag (cs.map .d)) else ok = true ∧ z.ok = true ∧ v = .tup [z, .one (.d (.bool false))]
    | .one (.d .nilI) => ok = true ∧ z.ok = true ∧ v = .tup [z, .one (.d (.bool false))]
    | _ => False
  | .call f args => (own' = own ∧ CallV S f (args.map ev) own v) ∨ (∃ j v0 c', own' = setC own j c' ∧ v = backV j v0 ∧ CallM S f (args.map ev) own j v0 c') ∨
      ∃ own1, own' = own1 ++ [.dead] ∧ own.length ≤ own1.length ∧ CallA S f (args.map ev) own v own1
  | .callv g args => (∃ f l, calleeV (ev g) (args.map ev) = some (f, l) ∧ ((own' = own ∧ CallV S f l own v) ∨ (∃ j v0 c', own' = setC own j c' ∧ v = backV j v0 ∧ (l.flatMap V.refs0).contains j = true ∧ CallM S f l own j v0 c') ∨
      ∃ own1, own' = own1 ++ [.dead] ∧ own.length ≤ own1.length ∧ CallA S f l own v own1)) ∨
      ∃ l own1 b, ev g = .one (.d (.raw (.func (.yield l) #[] #[]))) ∧ own' = own1 ++ [.dead] ∧ own.length ≤ own1.length ∧ v = .one (.d (.bool b)) ∧ RoundOK S l (args.map ev) own own1 b

/-- Must an operation leave the chunks as they are, where the order is drawn? -/
def quiet : MOp → Bool
  | .slc .. => true
  | .call .. => true
  | .callv .. => true
  | _ => false
/-- Is the next operation not wanted? The look's value says so, or is of one that was not wanted itself. -/
def offV (b : Bool) (u : V) : Prop := u = .tup [] ∨ ∃ c, u = .one (.d (.bool c)) ∧ c ≠ b
/-- A region's rest, step by step: there are values and chunks. -/
def Runs (S : Sx) (q : Bool) (K : St → Prop) : List Rc → St → Prop
  | [], s => K s
  | ⟨g, d, o⟩ :: r, s => (∃ v own', (∀ t b, g = some (t, b) → getV s.fr t = .one (.d (.bool b))) ∧ Ev S o (evO s.fr) s.own v own' ∧ (q = true → quiet o = true → own' = s.own) ∧ Runs S q K r ⟨putV s.fr d v, own'⟩) ∨
      (∃ t b, g = some (t, b) ∧ offV b (getV s.fr t) ∧ Runs S q K r ⟨putV s.fr d (.tup []), s.own⟩)
end Go.Fw
