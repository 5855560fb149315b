/- Small codes. -/
import Derived.Test.YtejnfjophhnaeaaGreatDoorFd
import Derived.Test.YtejnfjophhnaeaaGreatDoorProg
set_option linter.all false
namespace Go.Fw.L07
open Go Go.Fw
open Go.Proofs.Tryz renaming prog -> QP
open Go.Proofs.Tryz (f23 func23)
open Go.Fw.MO renaming op -> Qa,chk -> Qb
open Go.Fw.MOp renaming mv -> Qd,bin -> Qe,load -> Qf,fad -> Qg,call -> Qh,ext -> Qi,iad -> Qj,len -> Qk,pick -> Qm
open Go.Fw.Opd renaming t -> Qn,c -> Qo
open Go.Fw.V renaming one -> Qp
open Go.Fw.A renaming d -> Qq
open Go.Fw.D renaming int -> Qr,bool -> Qs
open Go.Fw.Leaf renaming i -> Qt
open Go.IntKind renaming i64 -> Qu
open Option renaming some -> Qv
variable {gp : Heap} {args : List V} {res : V} {pre : List Ch} {R : V -> List Ch -> Prop}
def f23_r0:List MO:=[Qa (Qv 2) (MOp.ibox (Qn 0)),Qa (Qv 4) (Qd (Qo (Qp (Qq (Qr Qu 0))))),Qa (Qv 5) (Qd (Qo (Qp (Qq (Qs false)))))]
def f23_c0:MC:=.r0 f23_r0
def f23_r1:List MO:=[Qa (Qv 14) (Qf 2 true (Qn 2)),Qa (Qv 15) (Qh 36 [(Qn 14)]),Qa (Qv 13) (Qd (Qn 15)),Qa (Qv 16) (Qi (Qn 13) 0),Qa (Qv 17) (Qi (Qn 13) 1),Qa (Qv 6) (Qd (Qn 16)),Qa (Qv 7) (Qd (Qn 17))]
def f23_c1:MC:=.r0 f23_r1
def f23_r2:List MO:=[Qa (Qv 18) (Qd (Qn 7)),Qa (Qv 19) (Qe Qt Go.BinOp.neq (Qn 18) (Qo (Qp (Qq (Qr Qu 0)))))]
def f23_c2:MC:=.r0 f23_r2
def f23_r3:List MO:=[Qa (Qv 4) (Qd (Qo (Qp (Qq (Qr Qu 0))))),Qa (Qv 5) (Qd (Qo (Qp (Qq (Qs false)))))]
def f23_c3:MC:=.r0 f23_r3
def f23_r10:List MO:=[Qa (Qv 20) (Qg 0 (Qn 2)),Qa (Qv 21) (Qf 1 false (Qn 20)),Qa (Qv 8) (Qd (Qn 21))]
def f23_c10:MC:=.r0 f23_r10
def f23_r11:List MO:=[Qa (Qv 22) (Qd (Qn 1)),Qa (Qv 23) (Qk Qt (Qn 22)),Qa (Qv 24) (Qd (Qo (Qp (Qq (Qr Qu 0)))))]
def f23_c11:MC:=.r0 f23_r11
def f23_r12:List MO:=[Qa (Qv 25) (Qe Qt Go.BinOp.lss (Qn 24) (Qn 23))]
def f23_c12:MC:=.r0 f23_r12
def f23_r16:List MO:=[Qa (Qv 26) (Qj 1 (Qn 22) (Qn 24)),Qa (Qv 27) (Qf 1 false (Qn 26)),Qa (Qv 10) (Qd (Qn 27))]
def f23_c16:MC:=.r0 f23_r16
def f23_r17:List MO:=[Qa (Qv 29) (Qf 2 true (Qn 2)),Qa (Qv 30) (Qd (Qn 8)),Qa (Qv 31) (Qh 21 [(Qn 29),(Qn 30)]),Qa (Qv 28) (Qd (Qn 31)),Qa (Qv 32) (Qi (Qn 28) 0),Qa (Qv 33) (Qi (Qn 28) 1),Qa (Qv 11) (Qd (Qn 32)),Qa (Qv 12) (Qd (Qn 33))]
def f23_c17:MC:=.r0 f23_r17
def f23_r18:List MO:=[Qa (Qv 34) (Qd (Qn 10)),Qa (Qv 35) (Qe Qt Go.BinOp.lss (Qn 34) (Qo (Qp (Qq (Qr Qu 0))))),Qa (Qv 36) (Qd (Qn 35)),Qb 36 false (Qv 37),Qa (Qv 37) (Qd (Qn 10)),Qb 36 false (Qv 38),Qa (Qv 38) (Qd (Qn 11)),Qb 36 false (Qv 39),Qa (Qv 39) (Qk Qt (Qn 38)),Qb 36 false (Qv 40),Qa (Qv 40) (Qe Qt Go.BinOp.geq (Qn 37) (Qn 39)),Qa (Qv 41) (Qm (Qn 36) (Qo (Qp (Qq (Qs true)))) (Qn 40))]
def f23_c18:MC:=.r0 f23_r18
def f23_r19:List MO:=[Qa (Qv 4) (Qd (Qo (Qp (Qq (Qr Qu 0))))),Qa (Qv 5) (Qd (Qo (Qp (Qq (Qs false)))))]
def f23_c19:MC:=.r0 f23_r19
def f23_r25:List MO:=[Qa (Qv 42) (Qd (Qn 11)),Qa (Qv 43) (Qd (Qn 10)),Qa (Qv 44) (Qj 1 (Qn 42) (Qn 43)),Qa (Qv 45) (Qf 1 false (Qn 44)),Qa (Qv 8) (Qd (Qn 45))]
def f23_c25:MC:=.r0 f23_r25
def f23_c27:MC:=.seq f23_c17 (.seq (.seq f23_c18 (.cond (Qn 41) (.seq f23_c19 .ret) .skip)) f23_c25)
def f23_r30:List MO:=[Qa (Qv 46) (Qe Qt Go.BinOp.add (Qn 24) (Qo (Qp (Qq (Qr Qu 1))))),Qa (Qv 24) (Qd (Qn 46))]
def f23_c30:MC:=.r0 f23_r30
def f23_c33:MC:=.seq f23_c12 (.seq (.cond (Qn 25) .skip (MC.exit 0)) (.seq (.blk 1 (.seq f23_c16 f23_c27)) f23_c30))
def f23_r37:List MO:=[Qa (Qv 47) (Qd (Qn 8)),Qa (Qv 4) (Qd (Qn 47)),Qa (Qv 5) (Qd (Qo (Qp (Qq (Qs true)))))]
def f23_c37:MC:=.r0 f23_r37
def f23_c41:MC:=.seq f23_c10 (.seq (.seq f23_c11 (.blk 0 (.loop f23_c33))) (.seq f23_c37 .ret))
def f23_c42:MC:=.seq (.seq f23_c1 (.seq f23_c2 (.cond (Qn 19) (.seq f23_c3 .ret) .skip))) f23_c41
def f23_c43:MC:=.seq f23_c0 f23_c42
attribute [go_sem] f23_r0 f23_r1 f23_r2 f23_r3 f23_r10 f23_r11 f23_r12 f23_r16 f23_r17 f23_r18 f23_r19 f23_r25 f23_r30 f23_r37
theorem f23_k : KK QP 23 f23 [2] f23_c43 [(RV.t 4),(RV.t 5)] 48 := by refine ⟨func23,?_,?_,?_,?_⟩<;>kernel_rfl
theorem f23_ok : callable QP 23 = true := by kernel_rfl
theorem f23_in (h : GI QP gp [(RV.t 4),(RV.t 5)] res 48 f23_c43 args) : Does QP gp 23 args res := f23_k.i f23_ok h
end Go.Fw.L07
