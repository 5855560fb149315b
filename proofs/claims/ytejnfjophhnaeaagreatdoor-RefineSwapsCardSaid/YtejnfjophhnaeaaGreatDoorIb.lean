/- Chapter 9: the pairs of two graphs. -/
import Derived.Test.YtejnfjophhnaeaaGreatDoorIa
set_option linter.all false
namespace Go.Fw.L07
open Go Go.Fw
set_option maxRecDepth 4000
variable {gp : Heap} {ua : Addr}
theorem eq_pv (p q : Pp) : eqV true [.i,.i] (pv p) (pv q) = some (decide (p = q)) := by
 simp only [go_sem]
 rw [pp_eq]
theorem met9_hit {out : List Pp} {p : Pp} (h : p ∈ out) : findV true [.i,.i] (met9 out) (pv p) = some (some (vb true)) := (findV_set eq_pv out p).trans (by rw [if_pos h])
theorem met9_no {out : List Pp} {p : Pp} (h : p ∉ out) : findV true [.i,.i] (met9 out) (pv p) = some none := (findV_set eq_pv out p).trans (by rw [if_neg h])
theorem met9_put {out : List Pp} {p : Pp} (h : p ∉ out) : putM true [.i,.i] (met9 out) (pv p) (vb true) = some (met9 (out ++ [p])) := putM_new eq_pv out p h
theorem met9_rn (js : List Nat) (out : List Pp) : rnC js (.map (met9 out)) = some (.map (met9 out)) := by simp only [rnC,met9_refs]; rfl
abbrev wp5 (g h : Gr) (v : Nat) : Ch := .cells [.d (.int .i64 g.root),.d (.sl (nds g.l)),.d (.int .i64 h.root),.d (.sl (nds h.l)),.own 2 0,.own 3 v]
def eD9 (ua : Addr) (b : Bool) : D := if b then .nilI else iE ua
def getI : List (Int × Int) -> Int -> Option Int
 | [],_ => none
 | (k,v) :: m,a => if a = k then some v else getI m a
def putI : List (Int × Int) -> Int -> Int -> List (Int × Int)
 | [],a,b => [(a,b)]
 | (k,v) :: m,a,b => if a = k then (a,b) :: m else (k,v) :: putI m a b
def tkO (x : Option Int) (b : Int) : Bool := match x with
 | none => true
 | some y => y == b
def tkN (φ ψ : Pp -> Int) (l : List Pp) : Nat -> List (Int × Int) × Bool
 | 0 => ([],true)
 | i + 1 => match l[i]? with
  | some p => (putI (tkN φ ψ l i).1 (φ p) (ψ p),(tkN φ ψ l i).2 && tkO (getI (tkN φ ψ l i).1 (φ p)) (ψ p))
  | none => tkN φ ψ l i
noncomputable def prG (g h : Gr) : List Pp × Bool := if chk g = none /\ chk h = none then pairsG g h else ([],false)
noncomputable def alG (g h : Gr) : Bool := if chk g = none /\ chk h = none then alikeG g h else false
def mpI (m : List (Int × Int)) : List (V × V) := m.map fun p => (vi p.1,vi p.2)
end Go.Fw.L07
