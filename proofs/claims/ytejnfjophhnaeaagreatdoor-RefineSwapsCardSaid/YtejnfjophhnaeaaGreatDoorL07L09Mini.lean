/- Small codes. -/
import Derived.Test.YtejnfjophhnaeaaGreatDoorFd
import Derived.Test.YtejnfjophhnaeaaGreatDoorProg
set_option linter.all false
namespace Go.Fw.L07
open Go Go.Fw
open Go.Proofs.Tryz renaming prog -> QP
open Go.Proofs.Tryz (f13 func13)
open Go.Fw.MO renaming op -> Qa
open Go.Fw.MOp renaming mv -> Qd,bin -> Qe,load -> Qf,fad -> Qg,call -> Qh,len -> Qk,store -> Ql
open Go.Fw.Opd renaming t -> Qn,c -> Qo
open Go.Fw.V renaming one -> Qp
open Go.Fw.A renaming d -> Qq
open Go.Fw.D renaming int -> Qr
open Go.Fw.Leaf renaming i -> Qt
open Go.IntKind renaming i64 -> Qu
open Option renaming some -> Qv
variable {gp : Heap} {args : List V} {res : V} {pre : List Ch} {R : V -> List Ch -> Prop}
def f13_r0:List MO:=[Qa (Qv 2) (MOp.ibox (Qn 0)),Qa (Qv 4) (MOp.alloc [(Qr Qu 0),(D.sl [])])]
def f13_c0:MC:=.r0 f13_r0
def f13_r1:List MO:=[Qa (Qv 5) (Qg 1 (Qn 2)),Qa (Qv 6) (Qf 1 false (Qn 5)),Qa (Qv 7) (Qk Qt (Qn 6)),Qa (Qv 8) (Qd (Qn 1)),Qa (Qv 9) (Qe Qt Go.BinOp.gtr (Qn 7) (Qn 8))]
def f13_c1:MC:=.r0 f13_r1
def f13_r2:List MO:=[Qa (Qv 10) (MOp.build [(Qr Qu 0),(D.sl [])] [(0,(1,(Qo (Qp (Qq (Qr Qu (-1)))))))]),Qa none (Ql 2 (Qn 4) (Qn 10))]
def f13_c2:MC:=.r0 f13_r2
def f13_r8:List MO:=[Qa (Qv 11) (Qf 2 true (Qn 2)),Qa (Qv 12) (Qh 35 [(Qn 11)]),Qa none (Ql 2 (Qn 4) (Qn 12))]
def f13_c8:MC:=.r0 f13_r8
def f13_c12:MC:=.seq f13_c0 (.seq (.seq f13_c1 (.cond (Qn 9) (.seq f13_c2 .ret) .skip)) (.seq f13_c8 .ret))
attribute [go_sem] f13_r0 f13_r1 f13_r2 f13_r8
theorem f13_k : KK QP 13 f13 [2] f13_c12 [(RV.cell 4 2 true)] 13 := by refine ⟨func13,?_,?_,?_,?_⟩<;>kernel_rfl
theorem f13_ok : callable QP 13 = true := by kernel_rfl
theorem f13_in (h : GI QP gp [(RV.cell 4 2 true)] res 13 f13_c12 args) : Does QP gp 13 args res := f13_k.i f13_ok h
end Go.Fw.L07
