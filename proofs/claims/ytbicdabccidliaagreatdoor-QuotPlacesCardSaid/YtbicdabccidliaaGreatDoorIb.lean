/- Chapter 9: the pairs of two graphs. -/
import Derived.Test.YtbicdabccidliaaGreatDoorIa
import Derived.Test.YtbicdabccidliaaGreatDoorEa
set_option linter.all false
namespace Go.Fw.L07
open Go Go.Fw
open Nat renaming reduceAdd -> Qa,reduceSub -> Qb,reduceMul -> Qc,reduceLeDiff -> Qd,reduceLT -> Qe,reduceEqDiff -> Qf
open Int renaming reduceToNat -> Qg,reduceLT -> Qh,reduceLE -> Qi,reduceGT -> Qj,reduceGE -> Qk,reduceEq -> Ql,reduceNe -> Qm,reduceBEq -> Qn,reduceBNe -> Qo,reduceAdd -> Qp,reduceSub -> Qq,reduceNeg -> Qr
open Go.Fw.V.one renaming injEq -> Qs
open Go.Fw.V.agg renaming injEq -> Qt
open Go.Fw.V.tup renaming injEq -> Qu
open Go.Fw.A.d renaming injEq -> Qv
open Go.Fw.D.bool renaming injEq -> Qw
open Go.Fw.D.int renaming injEq -> Qx
open Go.Fw.D.str renaming injEq -> Qy
open Go.Fw.D.sl renaming injEq -> Qz
open List.cons renaming injEq -> Za
set_option maxRecDepth 4000
variable {gp : Heap} {ua : Addr}
abbrev wp5 (g h : Gr) (v : Nat) : Ch := .cells [.d (.int .i64 g.root),.d (.sl (nds g.l)),.d (.int .i64 h.root),.d (.sl (nds h.l)),.own 2 0,.own 3 v]
def eD9 (ua : Addr) (b : Bool) : D := if b then .nilI else iE ua
def getI : List (Int × Int) -> Int -> Option Int
 | [],_ => none
 | (k,v) :: m,a => if a = k then some v else getI m a
def putI : List (Int × Int) -> Int -> Int -> List (Int × Int)
 | [],a,b => [(a,b)]
 | (k,v) :: m,a,b => if a = k then (a,b) :: m else (k,v) :: putI m a b
def tkO (x : Option Int) (b : Int) : Bool := match x with
 | none => true
 | some y => y == b
def tkN (φ ψ : Pp -> Int) (l : List Pp) : Nat -> List (Int × Int) × Bool
 | 0 => ([],true)
 | i + 1 => match l[i]? with
  | some p => (putI (tkN φ ψ l i).1 (φ p) (ψ p),(tkN φ ψ l i).2 && tkO (getI (tkN φ ψ l i).1 (φ p)) (ψ p))
  | none => tkN φ ψ l i
noncomputable def prG (g h : Gr) : List Pp × Bool := if chk g = none /\ chk h = none then pairsG g h else ([],false)
noncomputable def alG (g h : Gr) : Bool := if chk g = none /\ chk h = none then alikeG g h else false
def mpI (m : List (Int × Int)) : List (V × V) := m.map fun p => (vi p.1,vi p.2)
def k9 (k : Int) : Nd := ⟨1,⟨0,0,⟨#[]⟩⟩,[],[k]⟩
def gA : Gr := ⟨0,[k9 0]⟩
def hA : Gr := ⟨0,[k9 1,k9 0]⟩
def hB : Gr := ⟨1,[k9 1,k9 0]⟩
end Go.Fw.L07
