/- Chapter 9: the pairs of two graphs. -/
import Derived.Test.YtejnfjophhnaeaaGreatDoorIa
set_option linter.all false
namespace Go.Fw.L07
open Go Go.Fw
set_option maxRecDepth 4000
variable {gp:Xag} {ua:Addr}
theorem Wes (p q:Pp):eqV true [.i,.i] (pv p) (pv q)=some (decide (p=q)):=by
 simp only[go_sem]
 rw[Wtj]
theorem Yop {out:List Pp} {p:Pp} (h:p∈out):Xep true [.i,.i] (Xyi out) (pv p)=some (some (vb true)):=(Xi5 Wes out p).trans (by rw[if_pos h])
theorem Wet {out:List Pp} {p:Pp} (h:p ∉ out):Xep true [.i,.i] (Xyi out) (pv p)=some none:=(Xi5 Wes out p).trans (by rw[if_neg h])
theorem Xy4 {out:List Pp} {p:Pp} (h:p ∉ out):Xob true [.i,.i] (Xyi out) (pv p) (vb true)=some (Xyi (out++[p])):=Xo0 Wes out p h
theorem Yg4 (js:List Nat) (out:List Pp):rnC js (.map (Xyi out))=some (.map (Xyi out)):=by simp only[rnC,Xec];rfl
abbrev wp5 (g h:Gr) (v:Nat):Ch:=.cells [.d (.int .i64 g.root),.d (.sl (nds g.l)),.d (.int .i64 h.root),.d (.sl (nds h.l)),.own 2 0,.own 3 v]
def eD9 (ua:Addr) (b:Bool):D:=if b then .nilI else iE ua
def Wu6:List (Int × Int)->Int->Option Int
 | [],_=>none
 | (k,v)::m,a=>if a=k then some v else Wu6 m a
def Wu7:List (Int × Int)->Int->Int->List (Int × Int)
 | [],a,b=>[(a,b)]
 | (k,v)::m,a,b=>if a=k then (a,b)::m else (k,v)::Wu7 m a b
def tkO (x:Option Int) (b:Int):Bool:=match x with
 | none=>true
 | some y=>y==b
def tkN (φ ψ:Pp->Int) (l:List Pp):Nat->List (Int × Int) × Bool
 | 0=>([],true)
 | i+1=>match l[i]? with
  | some p=>(Wu7 (tkN φ ψ l i).1 (φ p) (ψ p),(tkN φ ψ l i).2 && tkO (Wu6 (tkN φ ψ l i).1 (φ p)) (ψ p))
  | none=>tkN φ ψ l i
noncomputable def prG (g h:Gr):List Pp × Bool:=if chk g=none/\chk h=none then Xyg g h else ([],false)
noncomputable def alG (g h:Gr):Bool:=if chk g=none/\chk h=none then Wm6 g h else false
def mpI (m:List (Int × Int)):List (V × V):=m.map fun p=>(vi p.1,vi p.2)
end Go.Fw.L07
