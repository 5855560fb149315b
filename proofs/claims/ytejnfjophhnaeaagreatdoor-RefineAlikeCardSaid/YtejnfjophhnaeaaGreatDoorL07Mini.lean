/- Small codes. -/
import Derived.Test.YtejnfjophhnaeaaGreatDoorFd
import Derived.Test.YtejnfjophhnaeaaGreatDoorProg
set_option linter.all false
namespace Go.Fw.L07
open Go Go.Fw
open Go.Proofs.Tryz renaming prog -> QP
open Go.Proofs.Tryz (f105 f106 f107 f108 f121 f122 f123 f124 f127 f134 f136 f137 f143 f144 f145 f147 f154 f155 f156 f157 f158 f159 f173 f174 f175 f176 f186 f20 f21 f35 f36 f44 f49 f50 f64 f68 f69 f70 f78 f79 f80 f81 f82 f84 f94 f95 f96 func105 func106 func107 func108 func121 func122 func123 func124 func127 func134 func136 func137 func143 func144 func145 func147 func154 func155 func156 func157 func158 func159 func173 func174 func175 func176 func186 func20 func21 func35 func36 func44 func49 func50 func64 func68 func69 func70 func78 func79 func80 func81 func82 func84 func94 func95 func96)
open Go.Fw.MO renaming op -> Qa,chk -> Qb,opx -> Qc
open Go.Fw.MOp renaming mv -> Qd,bin -> Qe,load -> Qf,fad -> Qg,call -> Qh,ext -> Qi,iad -> Qj,len -> Qk,store -> Ql,pick -> Qm
open Go.Fw.Opd renaming t -> Qn,c -> Qo
open Go.Fw.V renaming one -> Qp
open Go.Fw.A renaming d -> Qq
open Go.Fw.D renaming int -> Qr,bool -> Qs
open Go.Fw.Leaf renaming i -> Qt
open Go.IntKind renaming i64 -> Qu
open Option renaming some -> Qv
variable {gp : Heap} {args : List V} {res : V} {pre : List Ch} {R : V -> List Ch -> Prop}
def Yi0:List MO:=[Qa (Qv 4) (Qd (Qo (Qp (Qq (Qs false)))))]
def Y5m:MC:=.r0 Yi0
def Yi1:List MO:=[Qa (Qv 6) (Qd (Qn 0)),Qa (Qv 7) (Qk Qt (Qn 6)),Qa (Qv 8) (Qd (Qn 1)),Qa (Qv 9) (Qk Qt (Qn 8)),Qa (Qv 10) (Qe Qt Go.BinOp.neq (Qn 7) (Qn 9))]
def Y5n:MC:=.r0 Yi1
def Yi2:List MO:=[Qa (Qv 4) (Qd (Qo (Qp (Qq (Qs false)))))]
def Y5o:MC:=.r0 Yi2
def Yi3:List MO:=[Qa (Qv 5) (Qd (Qo (Qp (Qq (Qr Qu 0)))))]
def Y5p:MC:=.r0 Yi3
def Yi4:List MO:=[Qa (Qv 11) (Qd (Qn 5)),Qa (Qv 12) (Qd (Qn 0)),Qa (Qv 13) (Qk Qt (Qn 12)),Qa (Qv 14) (Qe Qt Go.BinOp.lss (Qn 11) (Qn 13))]
def Y5q:MC:=.r0 Yi4
def Xzl:List MO:=[Qa (Qv 17) (Qd (Qn 0)),Qa (Qv 18) (Qd (Qn 5)),Qa (Qv 19) (Qj 1 (Qn 17) (Qn 18)),Qa (Qv 20) (Qf 1 false (Qn 19)),Qa (Qv 21) (Qd (Qn 1)),Qa (Qv 22) (Qd (Qn 5)),Qa (Qv 23) (Qj 1 (Qn 21) (Qn 22)),Qa (Qv 24) (Qf 1 false (Qn 23)),Qa (Qv 25) (Qe Qt Go.BinOp.neq (Qn 20) (Qn 24))]
def Ypy:MC:=.reg true Xzl
def Xzm:List MO:=[Qa (Qv 4) (Qd (Qo (Qp (Qq (Qs false)))))]
def Ypz:MC:=.r0 Xzm
def Xzn:List MO:=[Qa (Qv 15) (Qd (Qn 5)),Qa (Qv 16) (Qe Qt Go.BinOp.add (Qn 15) (Qo (Qp (Qq (Qr Qu 1))))),Qa (Qv 5) (Qd (Qn 16))]
def Yp0:MC:=.r0 Xzn
def Yp1:MC:=.seq (.seq Y5q (.cond (Qn 14) .skip (MC.exit 0))) (.seq (.blk 1 (.seq Ypy (.cond (Qn 25) (.seq Ypz .ret) .skip))) Yp0)
def Xzo:List MO:=[Qa (Qv 4) (Qd (Qo (Qp (Qq (Qs true)))))]
def Yp2:MC:=.r0 Xzo
def Yp3:MC:=.seq (.seq Y5n (.cond (Qn 10) (.seq Y5o .ret) .skip)) (.seq (.seq Y5p (.blk 0 (.loop Yp1))) (.seq Yp2 .ret))
def Xzp:MC:=.seq Y5m Yp3
attribute [go_sem] Yi0 Yi1 Yi2 Yi3 Yi4 Xzl Xzm Xzn Xzo
theorem Wf5 : KK QP 20 f20 [] Xzp [(RV.t 4)] 26 := by refine ⟨func20,?_,?_,?_,?_⟩<;>kernel_rfl
theorem Y5r : Xaa QP 20 = true := by kernel_rfl
theorem Y5s (h : GI QP gp [(RV.t 4)] res 26 Xzp args) : Does QP gp 20 args res := Wf5.i Y5r h
def Xbc:List MO:=[Qa (Qv 2) (MOp.ibox (Qn 0)),Qa (Qv 4) (Qd (Qo (Qp A.nil))),Qa (Qv 5) (Qd (Qo (Qp (Qq (Qr Qu 0)))))]
def Y5t:MC:=.r0 Xbc
def Xbd:List MO:=[Qa (Qv 12) (Qf 2 true (Qn 2)),Qa (Qv 13) (Qd (Qn 1)),Qa (Qv 14) (Qh 49 [(Qn 12),(Qn 13)]),Qa (Qv 11) (Qd (Qn 14)),Qa (Qv 15) (Qi (Qn 11) 0),Qa (Qv 16) (Qi (Qn 11) 1),Qa (Qv 6) (MOp.alloc [(Qr Qu 0),(Qr Qu 0),(Qr Qu 0),(D.str (ByteArray.mk #[])),(D.sl []),(D.sl []),(Qr Qu 0)]),Qa none (Ql 7 (Qn 6) (Qn 15)),Qa (Qv 7) (Qd (Qn 16))]
def Y5u:MC:=.r0 Xbd
def Xbe:List MO:=[Qa (Qv 17) (Qd (Qn 7)),Qa (Qv 18) (Qe Qt Go.BinOp.eql (Qn 17) (Qo (Qp (Qq (Qr Qu 0))))),Qa (Qv 19) (Qd (Qn 18)),Qb 19 true (Qv 20),Qa (Qv 20) (Qg 0 (Qn 6)),Qb 19 true (Qv 21),Qa (Qv 21) (Qg 0 (Qn 20)),Qb 19 true (Qv 22),Qa (Qv 22) (Qf 1 false (Qn 21)),Qb 19 true (Qv 23),Qa (Qv 23) (Qe Qt Go.BinOp.eql (Qn 22) (Qo (Qp (Qq (Qr Qu 1))))),Qa (Qv 24) (Qm (Qn 19) (Qn 23) (Qo (Qp (Qq (Qs false)))))]
def Y5v:MC:=.r0 Xbe
def Xbf:List MO:=[Qa (Qv 25) (Qg 0 (Qn 6)),Qa (Qv 26) (Qg 5 (Qn 25)),Qa (Qv 27) (Qf 1 false (Qn 26)),Qa (Qv 28) (Qh 44 [(Qn 27)]),Qa (Qv 29) (Qd (Qn 7)),Qa (Qv 4) (Qd (Qn 28)),Qa (Qv 5) (Qd (Qn 29))]
def Y5w:MC:=.r0 Xbf
def Xbg:List MO:=[Qa (Qv 8) (Qd (Qo (Qp A.nil)))]
def Y5x:MC:=.r0 Xbg
def Xau:List MO:=[Qa (Qv 30) (Qf 7 true (Qn 6)),Qa (Qv 31) (Qh 50 [(Qn 30)]),Qa (Qv 32) (Qk Qt (Qn 31)),Qa (Qv 33) (Qd (Qo (Qp (Qq (Qr Qu 0)))))]
def Yp4:MC:=.r0 Xau
def Xaq:List MO:=[Qa (Qv 34) (Qe Qt Go.BinOp.lss (Qn 33) (Qn 32))]
def Yp5:MC:=.r0 Xaq
def Xav:List MO:=[Qa (Qv 35) (Qj 4 (Qn 31) (Qn 33)),Qa (Qv 36) (Qf 4 true (Qn 35)),Qa (Qv 10) (MOp.alloc [(Qr Qu 0),(Qr Qu 0),(D.str (ByteArray.mk #[])),(Qr Qu 0)]),Qa none (Ql 4 (Qn 10) (Qn 36))]
def Yp6:MC:=.r0 Xav
def Xaw:List MO:=[Qa (Qv 37) (Qd (Qn 8)),Qa (Qv 38) (Qg 3 (Qn 10)),Qa (Qv 39) (Qf 1 false (Qn 38)),Qa (Qv 40) (MOp.bslice 1 [(Qr Qu 0)] 1 [(0,(Qn 39))]),Qa (Qv 41) (MOp.app 3 1 8 (Qn 37) (Qn 40)),Qa (Qv 8) (Qd (Qn 41))]
def Yp7:MC:=.r0 Xaw
def Xax:List MO:=[Qa (Qv 42) (Qe Qt Go.BinOp.add (Qn 33) (Qo (Qp (Qq (Qr Qu 1))))),Qa (Qv 33) (Qd (Qn 42))]
def Yp8:MC:=.r0 Xax
def Yp9:MC:=.seq Yp5 (.seq (.cond (Qn 34) .skip (MC.exit 0)) (.seq (.blk 1 (.seq Yp6 Yp7)) Yp8))
def Xay:List MO:=[Qa (Qv 43) (Qd (Qn 8)),Qa (Qv 44) (Qd (Qn 7)),Qa (Qv 4) (Qd (Qn 43)),Qa (Qv 5) (Qd (Qn 44))]
def Yqa:MC:=.r0 Xay
def Yqb:MC:=.seq Y5x (.seq (.seq Yp4 (.blk 0 (.loop Yp9))) (.seq Yqa .ret))
def Yqc:MC:=.seq Y5u (.seq (.seq Y5v (.cond (Qn 24) (.seq Y5w .ret) .skip)) Yqb)
def Xq4:MC:=.seq Y5t Yqc
theorem Y5y : KK QP 21 f21 [2] Xq4 [(RV.t 4),(RV.t 5)] 45 := by refine ⟨func21,?_,?_,?_,?_⟩<;>kernel_rfl
theorem Yi5 : Xaa QP 21 = true := by kernel_rfl
theorem Y5z (h : GI QP gp [(RV.t 4),(RV.t 5)] res 45 Xq4 args) : Does QP gp 21 args res := Y5y.i Yi5 h
theorem Yqd (h : GT QP gp [(RV.t 4),(RV.t 5)] pre R 45 Xq4 args) : Tri QP gp 21 args pre R := Y5y.t h
def Yi6:List MO:=[Qa (Qv 1) (MOp.ibox (Qn 0)),Qa (Qv 2) (MOp.alloc [(Qr Qu 0),(D.sl [])])]
def Y50:MC:=.r0 Yi6
def Yi7:List MO:=[Qa (Qv 9) (Qg 0 (Qn 1)),Qa (Qv 10) (Qf 1 false (Qn 9)),Qa (Qv 11) (MOp.build [(Qr Qu 0),(D.sl [])] [(0,(1,(Qn 10)))]),Qa (Qv 3) (MOp.alloc [(Qr Qu 0),(D.sl [])]),Qa none (Ql 2 (Qn 3) (Qn 11))]
def Y51:MC:=.r0 Yi7
def Yi8:List MO:=[Qa (Qv 4) (Qd (Qo (Qp (Qq (Qr Qu 0)))))]
def Y52:MC:=.r0 Yi8
def Yi9:List MO:=[Qa (Qv 12) (Qd (Qn 4)),Qa (Qv 13) (Qg 1 (Qn 1)),Qa (Qv 14) (Qf 1 false (Qn 13)),Qa (Qv 15) (Qk Qt (Qn 14)),Qa (Qv 16) (Qe Qt Go.BinOp.lss (Qn 12) (Qn 15)),Qa (Qv 17) (Qd (Qn 16)),Qb 17 true (Qv 18),Qa (Qv 18) (Qd (Qn 4)),Qb 17 true (Qv 19),Qa (Qv 19) (Qe Qt Go.BinOp.lss (Qn 18) (Qo (Qp (Qq (Qr Qu 201))))),Qa (Qv 20) (Qm (Qn 17) (Qn 19) (Qo (Qp (Qq (Qs false)))))]
def Y53:MC:=.r0 Yi9
def Yja:List MO:=[Qa (Qv 23) (Qg 1 (Qn 1)),Qa (Qv 24) (Qf 1 false (Qn 23)),Qa (Qv 25) (Qd (Qn 4)),Qa (Qv 26) (Qj 6 (Qn 24) (Qn 25)),Qa (Qv 27) (Qf 6 true (Qn 26)),Qa (Qv 5) (MOp.alloc [(Qr Qu 0),(Qr Qu 0),(Qr Qu 0),(D.str (ByteArray.mk #[])),(D.sl []),(D.sl [])]),Qa none (Ql 6 (Qn 5) (Qn 27))]
def Y54:MC:=.r0 Yja
def Yjb:List MO:=[Qa (Qv 28) (Qg 0 (Qn 5)),Qa (Qv 29) (Qf 1 false (Qn 28)),Qa (Qv 30) (Qg 1 (Qn 5)),Qa (Qv 31) (Qf 3 true (Qn 30)),Qa (Qv 32) (Qh 68 [(Qn 31)]),Qa (Qv 33) (MOp.build [(Qr Qu 0),(Qr Qu 0),(Qr Qu 0),(D.str (ByteArray.mk #[])),(D.sl []),(D.sl [])] [(0,(1,(Qn 29))),(1,(3,(Qn 32)))]),Qa (Qv 6) (MOp.alloc [(Qr Qu 0),(Qr Qu 0),(Qr Qu 0),(D.str (ByteArray.mk #[])),(D.sl []),(D.sl [])]),Qa none (Ql 6 (Qn 6) (Qn 33))]
def Y55:MC:=.reg true Yjb
def Xzq:List MO:=[Qa (Qv 7) (Qd (Qo (Qp (Qq (Qr Qu 0)))))]
def Yqe:MC:=.r0 Xzq
def Xzr:List MO:=[Qa (Qv 34) (Qd (Qn 7)),Qa (Qv 35) (Qg 4 (Qn 5)),Qa (Qv 36) (Qf 1 false (Qn 35)),Qa (Qv 37) (Qk Qt (Qn 36)),Qa (Qv 38) (Qe Qt Go.BinOp.lss (Qn 34) (Qn 37)),Qa (Qv 39) (Qd (Qn 38)),Qb 39 true (Qv 40),Qa (Qv 40) (Qd (Qn 7)),Qb 39 true (Qv 41),Qa (Qv 41) (Qe Qt Go.BinOp.lss (Qn 40) (Qo (Qp (Qq (Qr Qu 12))))),Qa (Qv 42) (Qm (Qn 39) (Qn 41) (Qo (Qp (Qq (Qs false)))))]
def Yqf:MC:=.r0 Xzr
def Xzs:List MO:=[Qa (Qv 45) (Qg 4 (Qn 6)),Qa (Qv 46) (Qf 1 false (Qn 45)),Qa (Qv 47) (Qg 4 (Qn 5)),Qa (Qv 48) (Qf 1 false (Qn 47)),Qa (Qv 49) (Qd (Qn 7)),Qa (Qv 50) (Qj 3 (Qn 48) (Qn 49)),Qa (Qv 51) (Qf 3 true (Qn 50)),Qa (Qv 52) (Qh 68 [(Qn 51)]),Qa (Qv 53) (MOp.bslice 3 [(Qr Qu 0),(Qr Qu 0),(D.str (ByteArray.mk #[]))] 1 [(0,(Qn 52))]),Qa (Qv 54) (MOp.app 41 3 32 (Qn 46) (Qn 53)),Qa (Qv 55) (Qg 4 (Qn 6)),Qa none (Ql 1 (Qn 55) (Qn 54))]
def Yqg:MC:=.reg true Xzs
def Xzt:List MO:=[Qa (Qv 43) (Qd (Qn 7)),Qa (Qv 44) (Qe Qt Go.BinOp.add (Qn 43) (Qo (Qp (Qq (Qr Qu 1))))),Qa (Qv 7) (Qd (Qn 44))]
def Yqh:MC:=.r0 Xzt
def Yqi:MC:=.seq Yqe (.blk 2 (.loop (.seq (.seq Yqf (.cond (Qn 42) .skip (MC.exit 2))) (.seq (.blk 3 Yqg) Yqh))))
def Xzu:List MO:=[Qa (Qv 8) (Qd (Qo (Qp (Qq (Qr Qu 0)))))]
def Yqj:MC:=.r0 Xzu
def Xzv:List MO:=[Qa (Qv 56) (Qd (Qn 8)),Qa (Qv 57) (Qg 5 (Qn 5)),Qa (Qv 58) (Qf 1 false (Qn 57)),Qa (Qv 59) (Qk Qt (Qn 58)),Qa (Qv 60) (Qe Qt Go.BinOp.lss (Qn 56) (Qn 59)),Qa (Qv 61) (Qd (Qn 60)),Qb 61 true (Qv 62),Qa (Qv 62) (Qd (Qn 8)),Qb 61 true (Qv 63),Qa (Qv 63) (Qe Qt Go.BinOp.lss (Qn 62) (Qo (Qp (Qq (Qr Qu 12))))),Qa (Qv 64) (Qm (Qn 61) (Qn 63) (Qo (Qp (Qq (Qs false)))))]
def Yqk:MC:=.r0 Xzv
def Xzw:List MO:=[Qa (Qv 67) (Qg 5 (Qn 6)),Qa (Qv 68) (Qf 1 false (Qn 67)),Qa (Qv 69) (Qg 5 (Qn 5)),Qa (Qv 70) (Qf 1 false (Qn 69)),Qa (Qv 71) (Qd (Qn 8)),Qa (Qv 72) (Qj 1 (Qn 70) (Qn 71)),Qa (Qv 73) (Qf 1 false (Qn 72)),Qa (Qv 74) (MOp.bslice 1 [(Qr Qu 0)] 1 [(0,(Qn 73))]),Qa (Qv 75) (MOp.app 3 1 8 (Qn 68) (Qn 74)),Qa (Qv 76) (Qg 5 (Qn 6)),Qa none (Ql 1 (Qn 76) (Qn 75))]
def Yql:MC:=.reg true Xzw
def Xzx:List MO:=[Qa (Qv 65) (Qd (Qn 8)),Qa (Qv 66) (Qe Qt Go.BinOp.add (Qn 65) (Qo (Qp (Qq (Qr Qu 1))))),Qa (Qv 8) (Qd (Qn 66))]
def Yqm:MC:=.r0 Xzx
def Yqn:MC:=.seq Yqj (.blk 4 (.loop (.seq (.seq Yqk (.cond (Qn 64) .skip (MC.exit 4))) (.seq (.blk 5 Yql) Yqm))))
def Xzy:List MO:=[Qa (Qv 77) (Qg 1 (Qn 3)),Qa (Qv 78) (Qf 1 false (Qn 77)),Qa (Qv 79) (Qf 6 true (Qn 6)),Qa (Qv 80) (MOp.bslice 6 [(Qr Qu 0),(Qr Qu 0),(Qr Qu 0),(D.str (ByteArray.mk #[])),(D.sl []),(D.sl [])] 1 [(0,(Qn 79))]),Qa (Qv 81) (MOp.app 44 6 88 (Qn 78) (Qn 80)),Qa (Qv 82) (Qg 1 (Qn 3)),Qa none (Ql 1 (Qn 82) (Qn 81))]
def Yqo:MC:=.r0 Xzy
def Yqp:MC:=.seq Y55 (.seq Yqi (.seq Yqn Yqo))
def Xzz:List MO:=[Qa (Qv 21) (Qd (Qn 4)),Qa (Qv 22) (Qe Qt Go.BinOp.add (Qn 21) (Qo (Qp (Qq (Qr Qu 1))))),Qa (Qv 4) (Qd (Qn 22))]
def Yqq:MC:=.r0 Xzz
def Yqr:MC:=.seq (.seq Y53 (.cond (Qn 20) .skip (MC.exit 0))) (.seq (.blk 1 (.seq Y54 Yqp)) Yqq)
def Xz0:List MO:=[Qa (Qv 83) (Qf 2 true (Qn 3)),Qa none (Ql 2 (Qn 2) (Qn 83))]
def Yqs:MC:=.r0 Xz0
def Yqt:MC:=.seq Y51 (.seq (.seq Y52 (.blk 0 (.loop Yqr))) (.seq Yqs .ret))
def Xz1:MC:=.seq Y50 Yqt
attribute [go_sem] Yi6 Yi7 Yi8 Yi9 Yja Yjb Xzq Xzr Xzs Xzt Xzu Xzv Xzw Xzx Xzy Xzz Xz0
theorem Wf6 : KK QP 35 f35 [1] Xz1 [(RV.cell 2 2 true)] 84 := by refine ⟨func35,?_,?_,?_,?_⟩<;>kernel_rfl
theorem Y56 : Xaa QP 35 = true := by kernel_rfl
theorem Y57 (h : GI QP gp [(RV.cell 2 2 true)] res 84 Xz1 args) : Does QP gp 35 args res := Wf6.i Y56 h
def Yjc:List MO:=[Qa (Qv 1) (MOp.ibox (Qn 0)),Qa (Qv 2) (Qd (Qo (Qp (Qq (Qr Qu 0))))),Qa (Qv 3) (Qd (Qo (Qp (Qq (Qr Qu 0)))))]
def Y58:MC:=.r0 Yjc
def Yjd:List MO:=[Qa (Qv 4) (Qf 2 true (Qn 1)),Qa (Qv 5) (Qh 70 [(Qn 4)]),Qa (Qv 6) (Qh 69 [(Qn 5)]),Qa (Qv 7) (Qi (Qn 6) 0),Qa (Qv 8) (Qi (Qn 6) 1),Qa (Qv 2) (Qd (Qn 7)),Qa (Qv 3) (Qd (Qn 8))]
def Y59:MC:=.r0 Yjd
def Yje:MC:=.seq Y58 (.seq Y59 .ret)
attribute [go_sem] Yjc Yjd
theorem Wf7 : KK QP 36 f36 [1] Yje [(RV.t 2),(RV.t 3)] 9 := by refine ⟨func36,?_,?_,?_,?_⟩<;>kernel_rfl
theorem Y6a : Xaa QP 36 = true := by kernel_rfl
theorem Y6b (h : GI QP gp [(RV.t 2),(RV.t 3)] res 9 Yje args) : Does QP gp 36 args res := Wf7.i Y6a h
def Xbn:List MO:=[Qa (Qv 2) (Qd (Qo (Qp A.nil)))]
def Y6c:MC:=.r0 Xbn
def Xbo:List MO:=[Qa (Qv 3) (Qd (Qn 0)),Qa (Qv 4) (MOp.nilq NK.sl false (Qn 3))]
def Y6d:MC:=.r0 Xbo
def Xcb:List MO:=[Qa (Qv 2) (Qd (Qo (Qp A.nil)))]
def Y6e:MC:=.r0 Xcb
def Xcd:List MO:=[Qa (Qv 5) (MOp.bslO 1 [(Qr Qu 0)] 0 []),Qa (Qv 6) (Qd (Qn 0)),Qa (Qv 7) (MOp.app 3 1 8 (Qn 5) (Qn 6)),Qa (Qv 2) (Qd (Qn 7))]
def Y6f:MC:=.r0 Xcd
def Xq5:MC:=.seq Y6c (.seq (.seq Y6d (.cond (Qn 4) (.seq Y6e .ret) .skip)) (.seq Y6f .ret))
theorem Y6g : KK QP 44 f44 [5] Xq5 [(RV.t 2)] 8 := by refine ⟨func44,?_,?_,?_,?_⟩<;>kernel_rfl
theorem Xss : Xaa QP 44 = true := by kernel_rfl
theorem Y6h (h : GI QP gp [(RV.t 2)] res 8 Xq5 args) : Does QP gp 44 args res := Y6g.i Xss h
theorem Yqu (h : GT QP gp [(RV.t 2)] pre R 8 Xq5 args) : Tri QP gp 44 args pre R := Y6g.t h
def Yjf:List MO:=[Qa (Qv 2) (MOp.ibox (Qn 0)),Qa (Qv 4) (MOp.alloc [(Qr Qu 0),(Qr Qu 0),(Qr Qu 0),(D.str (ByteArray.mk #[])),(D.sl []),(D.sl []),(Qr Qu 0)]),Qa (Qv 5) (Qd (Qo (Qp (Qq (Qr Qu 0)))))]
def Y6i:MC:=.r0 Yjf
def Yjg:List MO:=[Qa (Qv 6) (Qf 2 true (Qn 2)),Qa (Qv 7) (Qd (Qn 1)),Qa (Qv 8) (Qh 78 [(Qn 6),(Qn 7)]),Qa (Qv 9) (MOp.not (Qn 8))]
def Y6j:MC:=.r0 Yjg
def Yjh:List MO:=[Qa (Qv 10) (MOp.build [(Qr Qu 0),(Qr Qu 0),(Qr Qu 0),(D.str (ByteArray.mk #[])),(D.sl []),(D.sl []),(Qr Qu 0)] []),Qa none (Ql 7 (Qn 4) (Qn 10)),Qa (Qv 5) (Qd (Qo (Qp (Qq (Qr Qu 2)))))]
def Y6k:MC:=.r0 Yjh
def Yji:List MO:=[Qa (Qv 11) (Qg 1 (Qn 2)),Qa (Qv 12) (Qf 1 false (Qn 11)),Qa (Qv 13) (Qd (Qn 1)),Qa (Qv 14) (Qj 6 (Qn 12) (Qn 13)),Qa (Qv 15) (Qf 6 true (Qn 14)),Qa (Qv 16) (Qg 1 (Qn 2)),Qa (Qv 17) (Qf 1 false (Qn 16)),Qa (Qv 18) (Qk Qt (Qn 17)),Qa (Qv 19) (MOp.build [(Qr Qu 0),(Qr Qu 0),(Qr Qu 0),(D.str (ByteArray.mk #[])),(D.sl []),(D.sl []),(Qr Qu 0)] [(0,(6,(Qn 15))),(6,(1,(Qn 18)))]),Qa none (Ql 7 (Qn 4) (Qn 19)),Qa (Qv 5) (Qd (Qo (Qp (Qq (Qr Qu 0)))))]
def Y6l:MC:=.reg true Yji
def Xz2:MC:=.seq Y6i (.seq (.seq Y6j (.cond (Qn 9) (.seq Y6k .ret) .skip)) (.seq Y6l .ret))
attribute [go_sem] Yjf Yjg Yjh Yji
theorem Wf8 : KK QP 49 f49 [2] Xz2 [(RV.cell 4 7 true),(RV.t 5)] 20 := by refine ⟨func49,?_,?_,?_,?_⟩<;>kernel_rfl
theorem Y6m : Xaa QP 49 = true := by kernel_rfl
theorem Y6n (h : GI QP gp [(RV.cell 4 7 true),(RV.t 5)] res 20 Xz2 args) : Does QP gp 49 args res := Wf8.i Y6m h
def Yjj:List MO:=[Qa (Qv 1) (MOp.ibox (Qn 0)),Qa (Qv 2) (Qd (Qo (Qp A.nil)))]
def Y6o:MC:=.r0 Yjj
def Yjk:List MO:=[Qa (Qv 6) (Qg 0 (Qn 1)),Qa (Qv 7) (Qg 0 (Qn 6)),Qa (Qv 8) (Qf 1 false (Qn 7)),Qa (Qv 9) (Qe Qt Go.BinOp.neq (Qn 8) (Qo (Qp (Qq (Qr Qu 2))))),Qa (Qv 10) (Qd (Qn 9)),Qb 10 false (Qv 11),Qa (Qv 11) (Qf 7 true (Qn 1)),Qb 10 false (Qv 12),Qa (Qv 12) (Qh 79 [(Qn 11)]),Qb 10 false (Qv 13),Qa (Qv 13) (MOp.not (Qn 12)),Qa (Qv 14) (Qm (Qn 10) (Qo (Qp (Qq (Qs true)))) (Qn 13))]
def Y6p:MC:=.r0 Yjk
def Yjl:List MO:=[Qa (Qv 2) (Qd (Qo (Qp A.nil)))]
def Y6q:MC:=.r0 Yjl
def Yjm:List MO:=[Qa (Qv 3) (Qd (Qo (Qp A.nil)))]
def Y6r:MC:=.r0 Yjm
def Yjn:List MO:=[Qa (Qv 15) (Qg 0 (Qn 1)),Qa (Qv 16) (Qg 4 (Qn 15)),Qa (Qv 17) (Qf 1 false (Qn 16)),Qa (Qv 18) (Qk Qt (Qn 17)),Qa (Qv 19) (Qd (Qo (Qp (Qq (Qr Qu 0)))))]
def Y6s:MC:=.r0 Yjn
def Xz3:List MO:=[Qa (Qv 20) (Qe Qt Go.BinOp.lss (Qn 19) (Qn 18))]
def Yqv:MC:=.r0 Xz3
def Xz4:List MO:=[Qa (Qv 21) (Qd (Qn 19)),Qa (Qv 22) (Qj 3 (Qn 17) (Qn 19)),Qa (Qv 23) (Qf 3 true (Qn 22)),Qa (Qv 5) (MOp.alloc [(Qr Qu 0),(Qr Qu 0),(D.str (ByteArray.mk #[]))]),Qa (Qv 4) (Qd (Qn 21)),Qa none (Ql 3 (Qn 5) (Qn 23))]
def Yqw:MC:=.r0 Xz4
def Xz5:List MO:=[Qa (Qv 24) (Qd (Qn 3)),Qa (Qv 25) (Qf 3 true (Qn 5)),Qa (Qv 26) (Qg 0 (Qn 1)),Qa (Qv 27) (Qg 5 (Qn 26)),Qa (Qv 28) (Qf 1 false (Qn 27)),Qa (Qv 29) (Qd (Qn 4)),Qa (Qv 30) (Qj 1 (Qn 28) (Qn 29)),Qa (Qv 31) (Qf 1 false (Qn 30)),Qa (Qv 32) (MOp.build [(Qr Qu 0),(Qr Qu 0),(D.str (ByteArray.mk #[])),(Qr Qu 0)] [(0,(3,(Qn 25))),(3,(1,(Qn 31)))]),Qa (Qv 33) (MOp.bslice 4 [(Qr Qu 0),(Qr Qu 0),(D.str (ByteArray.mk #[])),(Qr Qu 0)] 1 [(0,(Qn 32))]),Qa (Qv 34) (MOp.app 87 4 40 (Qn 24) (Qn 33)),Qa (Qv 3) (Qd (Qn 34))]
def Yqx:MC:=.reg true Xz5
def Xz6:List MO:=[Qa (Qv 35) (Qe Qt Go.BinOp.add (Qn 19) (Qo (Qp (Qq (Qr Qu 1))))),Qa (Qv 19) (Qd (Qn 35))]
def Yqy:MC:=.r0 Xz6
def Yqz:MC:=.seq Yqv (.seq (.cond (Qn 20) .skip (MC.exit 0)) (.seq (.blk 1 (.seq Yqw Yqx)) Yqy))
def Xz7:List MO:=[Qa (Qv 36) (Qd (Qn 3)),Qa (Qv 37) (Qh 80 [(Qn 36),(Qo (Qp (Qq (D.fn (Go.Fn.func 81) []))))])]
def Yq0:MC:=.r0 Xz7
def Xz8:List MO:=[Qa (Qv 38) (Qd (Qn 3)),Qa (Qv 2) (Qd (Qn 38))]
def Yq1:MC:=.r0 Xz8
def Yq2:MC:=.seq (.seq Y6s (.blk 0 (.loop Yqz))) (.seq Yq0 (.seq Yq1 .ret))
def Yq3:MC:=.seq (.seq Y6p (.cond (Qn 14) (.seq Y6q .ret) .skip)) (.seq Y6r Yq2)
def Xz9:MC:=.seq Y6o Yq3
attribute [go_sem] Yjj Yjk Yjl Yjm Yjn Xz3 Xz4 Xz5 Xz6 Xz7 Xz8
theorem Wf9 : KK QP 50 f50 [1] Xz9 [(RV.t 2)] 39 := by refine ⟨func50,?_,?_,?_,?_⟩<;>kernel_rfl
theorem Y6t : Xaa QP 50 = true := by kernel_rfl
theorem Y6u (h : GI QP gp [(RV.t 2)] res 39 Xz9 args) : Does QP gp 50 args res := Wf9.i Y6t h
def Xhl:List MO:=[Qa (Qv 2) (MOp.ibox (Qn 0)),Qa (Qv 4) (Qd (Qo (Qp A.nil))),Qa (Qv 5) (Qd (Qo (Qp (Qq (Qr Qu 0)))))]
def Y6v:MC:=.r0 Xhl
def Xhm:List MO:=[Qa (Qv 12) (Qf 2 true (Qn 2)),Qa (Qv 13) (Qd (Qn 1)),Qa (Qv 14) (Qh 49 [(Qn 12),(Qn 13)]),Qa (Qv 11) (Qd (Qn 14)),Qa (Qv 15) (Qi (Qn 11) 0),Qa (Qv 16) (Qi (Qn 11) 1),Qa (Qv 6) (MOp.alloc [(Qr Qu 0),(Qr Qu 0),(Qr Qu 0),(D.str (ByteArray.mk #[])),(D.sl []),(D.sl []),(Qr Qu 0)]),Qa none (Ql 7 (Qn 6) (Qn 15)),Qa (Qv 7) (Qd (Qn 16))]
def Y6w:MC:=.r0 Xhm
def Xhn:List MO:=[Qa (Qv 8) (Qd (Qo (Qp A.nil)))]
def Y6x:MC:=.r0 Xhn
def Xho:List MO:=[Qa (Qv 17) (Qf 7 true (Qn 6)),Qa (Qv 18) (Qh 50 [(Qn 17)]),Qa (Qv 19) (Qk Qt (Qn 18)),Qa (Qv 20) (Qd (Qo (Qp (Qq (Qr Qu 0)))))]
def Y6y:MC:=.r0 Xho
def Xgm:List MO:=[Qa (Qv 21) (Qe Qt Go.BinOp.lss (Qn 20) (Qn 19))]
def Y6z:MC:=.r0 Xgm
def Xhp:List MO:=[Qa (Qv 22) (Qj 4 (Qn 18) (Qn 20)),Qa (Qv 23) (Qf 4 true (Qn 22)),Qa (Qv 10) (MOp.alloc [(Qr Qu 0),(Qr Qu 0),(D.str (ByteArray.mk #[])),(Qr Qu 0)]),Qa none (Ql 4 (Qn 10) (Qn 23))]
def Y60:MC:=.r0 Xhp
def Xhq:List MO:=[Qa (Qv 24) (Qd (Qn 8)),Qa (Qv 25) (Qg 0 (Qn 10)),Qa (Qv 26) (Qf 3 true (Qn 25)),Qa (Qv 27) (MOp.bslice 3 [(Qr Qu 0),(Qr Qu 0),(D.str (ByteArray.mk #[]))] 1 [(0,(Qn 26))]),Qa (Qv 28) (MOp.app 41 3 32 (Qn 24) (Qn 27)),Qa (Qv 8) (Qd (Qn 28))]
def Y61:MC:=.r0 Xhq
def Xev:List MO:=[Qa (Qv 29) (Qe Qt Go.BinOp.add (Qn 20) (Qo (Qp (Qq (Qr Qu 1))))),Qa (Qv 20) (Qd (Qn 29))]
def Yq4:MC:=.r0 Xev
def Yq5:MC:=.seq Y6z (.seq (.cond (Qn 21) .skip (MC.exit 0)) (.seq (.blk 1 (.seq Y60 Y61)) Yq4))
def Xew:List MO:=[Qa (Qv 30) (Qd (Qn 8)),Qa (Qv 31) (Qd (Qn 7)),Qa (Qv 4) (Qd (Qn 30)),Qa (Qv 5) (Qd (Qn 31))]
def Yq6:MC:=.r0 Xew
def Yq7:MC:=.seq Y6x (.seq (.seq Y6y (.blk 0 (.loop Yq5))) (.seq Yq6 .ret))
def X0a:MC:=.seq Y6v (.seq Y6w Yq7)
theorem Wga : KK QP 64 f64 [2] X0a [(RV.t 4),(RV.t 5)] 32 := by refine ⟨func64,?_,?_,?_,?_⟩<;>kernel_rfl
theorem Y62 : Xaa QP 64 = true := by kernel_rfl
theorem Y63 (h : GI QP gp [(RV.t 4),(RV.t 5)] res 32 X0a args) : Does QP gp 64 args res := Wga.i Y62 h
def Yjo:List MO:=[Qa (Qv 1) (MOp.ibox (Qn 0)),Qa (Qv 2) (MOp.alloc [(Qr Qu 0),(Qr Qu 0),(D.str (ByteArray.mk #[]))])]
def Y64:MC:=.r0 Yjo
def Yjp:List MO:=[Qa (Qv 3) (Qg 0 (Qn 1)),Qa (Qv 4) (Qf 1 false (Qn 3)),Qa (Qv 5) (Qg 1 (Qn 1)),Qa (Qv 6) (Qf 1 false (Qn 5)),Qa (Qv 7) (Qg 2 (Qn 1)),Qa (Qv 8) (Qf 1 false (Qn 7)),Qa (Qv 9) (Qh 94 [(Qn 8)]),Qa (Qv 10) (MOp.build [(Qr Qu 0),(Qr Qu 0),(D.str (ByteArray.mk #[]))] [(0,(1,(Qn 4))),(1,(1,(Qn 6))),(2,(1,(Qn 9)))]),Qa none (Ql 3 (Qn 2) (Qn 10))]
def Y65:MC:=.reg true Yjp
def Yjq:MC:=.seq Y64 (.seq Y65 .ret)
attribute [go_sem] Yjo Yjp
theorem Wgb : KK QP 68 f68 [1] Yjq [(RV.cell 2 3 true)] 11 := by refine ⟨func68,?_,?_,?_,?_⟩<;>kernel_rfl
theorem Y66 : Xaa QP 68 = true := by kernel_rfl
theorem Y67 (h : GI QP gp [(RV.cell 2 3 true)] res 11 Yjq args) : Does QP gp 68 args res := Wgb.i Y66 h
def Yjr:List MO:=[Qa (Qv 2) (Qd (Qo (Qp (Qq (Qr Qu 0))))),Qa (Qv 3) (Qd (Qo (Qp (Qq (Qr Qu 0)))))]
def Y68:MC:=.r0 Yjr
def Yjs:List MO:=[Qa (Qv 4) (MOp.alloc [(Qr Qu 0),(Qr Qu 0)])]
def Y69:MC:=.r0 Yjs
def Yjt:List MO:=[Qa (Qv 5) (Qd (Qn 0)),Qa (Qv 6) (MOp.mkI 156 (Qn 4)),Qa (Qv 7) (Qh 87 [(Qn 5),(Qn 6)])]
def Y7a:MC:=.r0 Yjt
def Yju:List MO:=[Qa (Qv 8) (Qg 0 (Qn 4)),Qa (Qv 9) (Qf 1 false (Qn 8)),Qa (Qv 10) (Qg 1 (Qn 4)),Qa (Qv 11) (Qf 1 false (Qn 10)),Qa (Qv 2) (Qd (Qn 9)),Qa (Qv 3) (Qd (Qn 11))]
def Y7b:MC:=.reg true Yju
def Yjv:List MO:=[Qa (Qv 2) (Qd (Qo (Qp (Qq (Qr Qu 0))))),Qa (Qv 3) (Qd (Qo (Qp (Qq (Qr Qu 0)))))]
def Y7c:MC:=.r0 Yjv
def Yq8:MC:=.seq Y69 (.seq (.seq Y7a (.cond (Qn 7) (.seq Y7b .ret) .skip)) (.seq Y7c .ret))
def X0b:MC:=.seq Y68 Yq8
attribute [go_sem] Yjr Yjs Yjt Yju Yjv
theorem Wgc : KK QP 69 f69 [] X0b [(RV.t 2),(RV.t 3)] 12 := by refine ⟨func69,?_,?_,?_,?_⟩<;>kernel_rfl
theorem Y7d : Xaa QP 69 = true := by kernel_rfl
theorem Y7e (h : GI QP gp [(RV.t 2),(RV.t 3)] res 12 X0b args) : Does QP gp 69 args res := Wgc.i Y7d h
def Yjw:List MO:=[Qa (Qv 1) (MOp.ibox (Qn 0)),Qa (Qv 2) (MOp.alloc [D.nilI])]
def Y7f:MC:=.r0 Yjw
def Yjx:List MO:=[Qa (Qv 6) (Qg 1 (Qn 1)),Qa (Qv 7) (Qf 1 false (Qn 6)),Qa (Qv 8) (Qk Qt (Qn 7)),Qa (Qv 9) (Qe Qt Go.BinOp.gtr (Qn 8) (Qo (Qp (Qq (Qr Qu 200))))),Qa (Qv 5) (Qd (Qn 9))]
def Y7g:MC:=.r0 Yjx
def Yjy:List MO:=[Qa (Qv 10) (MOp.build [(Qr Qu 0),(Qr Qu 0)] [(0,(1,(Qo (Qp (Qq (Qr Qu 0)))))),(1,(1,(Qo (Qp (Qq (Qr Qu 71))))))]),Qa (Qv 11) (MOp.mkI 155 (Qn 10)),Qa none (Ql 1 (Qn 2) (Qn 11))]
def Y7h:MC:=.r0 Yjy
def Yjz:List MO:=[Qa (Qv 13) (Qf 2 true (Qn 1)),Qa (Qv 14) (Qg 0 (Qn 1)),Qa (Qv 15) (Qf 1 false (Qn 14)),Qa (Qv 16) (Qh 78 [(Qn 13),(Qn 15)]),Qa (Qv 17) (MOp.not (Qn 16)),Qa (Qv 12) (Qd (Qn 17))]
def Y7i:MC:=.r0 Yjz
def Yj0:List MO:=[Qa (Qv 18) (MOp.build [(Qr Qu 0),(Qr Qu 0)] [(0,(1,(Qo (Qp (Qq (Qr Qu (-1))))))),(1,(1,(Qo (Qp (Qq (Qr Qu 70))))))]),Qa (Qv 19) (MOp.mkI 155 (Qn 18)),Qa none (Ql 1 (Qn 2) (Qn 19))]
def Y7j:MC:=.r0 Yj0
def Yq9:MC:=.seq Y7g (.cond (Qn 5) (.seq Y7h .ret) (.seq Y7i (.cond (Qn 12) (.seq Y7j .ret) .skip)))
def X0c:List MO:=[Qa (Qv 20) (Qf 2 true (Qn 1)),Qa (Qv 21) (Qh 95 [(Qn 20)])]
def Yra:MC:=.r0 X0c
def X0d:List MO:=[Qa (Qv 3) (Qd (Qn 22))]
def Yrb:MC:=.r0 X0d
def X0e:List MO:=[Qa (Qv 4) (MOp.alloc [(Qr Qu 0),(Qr Qu 0),(Qr Qu 0),(D.str (ByteArray.mk #[])),(D.sl []),(D.sl []),(Qr Qu 0)]),Qa none (Ql 7 (Qn 4) (Qn 23))]
def Yrc:MC:=.r0 X0e
def X0f:List MO:=[Qa (Qv 24) (Qf 7 true (Qn 4)),Qa (Qv 25) (Qh 96 [(Qn 24)]),Qa (Qv 26) (MOp.not (Qn 25))]
def Yrd:MC:=.r0 X0f
def X0g:List MO:=[Qa (Qv 27) (Qd (Qn 3)),Qa (Qv 28) (MOp.build [(Qr Qu 0),(Qr Qu 0)] [(0,(1,(Qn 27))),(1,(1,(Qo (Qp (Qq (Qr Qu 70))))))]),Qa (Qv 29) (MOp.mkI 155 (Qn 28)),Qa none (Ql 1 (Qn 2) (Qn 29))]
def Yre:MC:=.r0 X0g
def Yrf:MC:=.rf (Qn 21) [22,23] (.seq Yrb Yrc) (.blk 2 (.seq Yrd (.cond (Qn 26) (.seq Yre .ret) .skip)))
def X0h:List MO:=[Qa none (Ql 1 (Qn 2) (Qo (Qp (Qq D.nilI))))]
def Yrg:MC:=.r0 X0h
def Yrh:MC:=.seq (.blk 0 Yq9) (.seq (.seq Yra (.blk 1 Yrf)) (.seq Yrg .ret))
def X0i:MC:=.seq Y7f Yrh
attribute [go_sem] Yjw Yjx Yjy Yjz Yj0 X0c X0d X0e X0f X0g X0h
theorem Wgd : KK QP 70 f70 [1] X0i [(RV.cell 2 1 false)] 30 := by refine ⟨func70,?_,?_,?_,?_⟩<;>kernel_rfl
theorem Y7k : Xaa QP 70 = true := by kernel_rfl
theorem Y7l (h : GI QP gp [(RV.cell 2 1 false)] res 30 X0i args) : Does QP gp 70 args res := Wgd.i Y7k h
def Yj1:List MO:=[Qa (Qv 2) (MOp.ibox (Qn 0)),Qa (Qv 4) (Qd (Qo (Qp (Qq (Qs false)))))]
def Y7m:MC:=.r0 Yj1
def Yj2:List MO:=[Qa (Qv 5) (Qd (Qn 1)),Qa (Qv 6) (Qe Qt Go.BinOp.geq (Qn 5) (Qo (Qp (Qq (Qr Qu 0))))),Qa (Qv 7) (Qd (Qn 6)),Qb 7 true (Qv 8),Qa (Qv 8) (Qd (Qn 1)),Qb 7 true (Qv 9),Qa (Qv 9) (Qg 1 (Qn 2)),Qb 7 true (Qv 10),Qa (Qv 10) (Qf 1 false (Qn 9)),Qb 7 true (Qv 11),Qa (Qv 11) (Qk Qt (Qn 10)),Qb 7 true (Qv 12),Qa (Qv 12) (Qe Qt Go.BinOp.lss (Qn 8) (Qn 11)),Qa (Qv 13) (Qm (Qn 7) (Qn 12) (Qo (Qp (Qq (Qs false))))),Qa (Qv 4) (Qd (Qn 13))]
def Y7n:MC:=.r0 Yj2
def Yj3:MC:=.seq Y7m (.seq Y7n .ret)
attribute [go_sem] Yj1 Yj2
theorem Wge : KK QP 78 f78 [2] Yj3 [(RV.t 4)] 14 := by refine ⟨func78,?_,?_,?_,?_⟩<;>kernel_rfl
theorem Y7o : Xaa QP 78 = true := by kernel_rfl
theorem Y7p (h : GI QP gp [(RV.t 4)] res 14 Yj3 args) : Does QP gp 78 args res := Wge.i Y7o h
def Yj4:List MO:=[Qa (Qv 1) (MOp.ibox (Qn 0)),Qa (Qv 2) (Qd (Qo (Qp (Qq (Qs false)))))]
def Y7q:MC:=.r0 Yj4
def Yj5:List MO:=[Qa (Qv 3) (Qg 0 (Qn 1)),Qa (Qv 4) (Qg 4 (Qn 3)),Qa (Qv 5) (Qf 1 false (Qn 4)),Qa (Qv 6) (Qk Qt (Qn 5)),Qa (Qv 7) (Qg 0 (Qn 1)),Qa (Qv 8) (Qg 5 (Qn 7)),Qa (Qv 9) (Qf 1 false (Qn 8)),Qa (Qv 10) (Qk Qt (Qn 9)),Qa (Qv 11) (Qe Qt Go.BinOp.eql (Qn 6) (Qn 10)),Qa (Qv 2) (Qd (Qn 11))]
def Y7r:MC:=.r0 Yj5
def Yj6:MC:=.seq Y7q (.seq Y7r .ret)
attribute [go_sem] Yj4 Yj5
theorem Wgf : KK QP 79 f79 [1] Yj6 [(RV.t 2)] 12 := by refine ⟨func79,?_,?_,?_,?_⟩<;>kernel_rfl
theorem Y7s : Xaa QP 79 = true := by kernel_rfl
theorem Y7t (h : GI QP gp [(RV.t 2)] res 12 Yj6 args) : Does QP gp 79 args res := Wgf.i Y7s h
def Yj7:List MO:=[Qa (Qv 4) (Qd (Qn 0)),Qa (Qv 5) (Qd (Qn 0)),Qa (Qv 6) (Qk Qt (Qn 5)),Qa (Qv 7) (Qd (Qn 1)),Qa (Qv 8) (Qh 105 [(Qn 4),(Qn 6),(Qn 7)])]
def Yj8:MC:=.r0 Yj7
attribute [go_sem] Yj7
theorem Wgg : KK QP 80 f80 [] Yj8 [] 9 := by refine ⟨func80,?_,?_,?_,?_⟩<;>kernel_rfl
theorem Y7u : Xaa QP 80 = true := by kernel_rfl
theorem Yri (h : GT QP gp [] pre R 9 Yj8 args) : Tri QP gp 80 args pre R := Wgg.t h
def Yj9:List MO:=[Qa (Qv 2) (MOp.ibox (Qn 0)),Qa (Qv 3) (MOp.ibox (Qn 1)),Qa (Qv 4) (Qd (Qo (Qp (Qq (Qr Qu 0)))))]
def Y7v:MC:=.r0 Yj9
def Yka:List MO:=[Qa (Qv 5) (Qg 0 (Qn 2)),Qa (Qv 6) (Qf 3 true (Qn 5)),Qa (Qv 7) (Qg 0 (Qn 3)),Qa (Qv 8) (Qf 3 true (Qn 7)),Qa (Qv 9) (Qh 82 [(Qn 6),(Qn 8)]),Qa (Qv 4) (Qd (Qn 9))]
def Y7w:MC:=.r0 Yka
def Ykb:MC:=.seq Y7v (.seq Y7w .ret)
attribute [go_sem] Yj9 Yka
theorem Wgh : KK QP 81 f81 [2,3] Ykb [(RV.t 4)] 10 := by refine ⟨func81,?_,?_,?_,?_⟩<;>kernel_rfl
theorem Y7x : Xaa QP 81 = true := by kernel_rfl
theorem Y7y (h : GI QP gp [(RV.t 4)] res 10 Ykb args) : Does QP gp 81 args res := Wgh.i Y7x h
def Ykc:List MO:=[Qa (Qv 2) (MOp.ibox (Qn 0)),Qa (Qv 3) (MOp.ibox (Qn 1)),Qa (Qv 4) (Qd (Qo (Qp (Qq (Qr Qu 0)))))]
def Y7z:MC:=.r0 Ykc
def Ykd:List MO:=[Qa (Qv 5) (Qf 3 true (Qn 2)),Qa (Qv 6) (Qf 3 true (Qn 3)),Qa (Qv 7) (MOp.eqs false [Qt,Qt,Leaf.s] (Qn 5) (Qn 6))]
def Y70:MC:=.r0 Ykd
def Yke:List MO:=[Qa (Qv 4) (Qd (Qo (Qp (Qq (Qr Qu 0)))))]
def Y71:MC:=.r0 Yke
def Ykf:List MO:=[Qa (Qv 8) (Qg 0 (Qn 2)),Qa (Qv 9) (Qf 1 false (Qn 8)),Qa (Qv 10) (Qg 0 (Qn 3)),Qa (Qv 11) (Qf 1 false (Qn 10)),Qa (Qv 12) (Qh 107 [(Qn 9),(Qn 11)]),Qa (Qv 13) (Qg 1 (Qn 2)),Qa (Qv 14) (Qf 1 false (Qn 13)),Qa (Qv 15) (Qg 1 (Qn 3)),Qa (Qv 16) (Qf 1 false (Qn 15)),Qa (Qv 17) (Qh 107 [(Qn 14),(Qn 16)]),Qa (Qv 18) (Qg 2 (Qn 2)),Qa (Qv 19) (Qf 1 false (Qn 18)),Qa (Qv 20) (Qg 2 (Qn 3)),Qa (Qv 21) (Qf 1 false (Qn 20)),Qc (Qv 22) (Qh 108 [(Qn 19),(Qn 21)]),Qa (Qv 23) (MOp.bslice 1 [(Qr Qu 0)] 3 [(0,(Qn 12)),(1,(Qn 17)),(2,(Qn 22))]),Qc (Qv 24) (Qh 106 [(Qn 23)]),Qa (Qv 4) (Qd (Qn 24))]
def Y72:MC:=.reg true Ykf
def X0j:MC:=.seq Y7z (.seq (.seq Y70 (.cond (Qn 7) (.seq Y71 .ret) .skip)) (.seq Y72 .ret))
attribute [go_sem] Ykc Ykd Yke Ykf
theorem Wgi : KK QP 82 f82 [2,3] X0j [(RV.t 4)] 25 := by refine ⟨func82,?_,?_,?_,?_⟩<;>kernel_rfl
theorem Y73 : Xaa QP 82 = true := by kernel_rfl
theorem Y74 (h : GI QP gp [(RV.t 4)] res 25 X0j args) : Does QP gp 82 args res := Wgi.i Y73 h
def Ykg:List MO:=[Qa (Qv 4) (Qd (Qo (Qp (Qq (Qs false)))))]
def Y75:MC:=.r0 Ykg
def Ykh:List MO:=[Qa (Qv 6) (Qd (Qn 0)),Qa (Qv 7) (Qk Qt (Qn 6)),Qa (Qv 8) (Qd (Qn 1)),Qa (Qv 9) (Qk Qt (Qn 8)),Qa (Qv 10) (Qe Qt Go.BinOp.neq (Qn 7) (Qn 9))]
def Y76:MC:=.r0 Ykh
def Yki:List MO:=[Qa (Qv 4) (Qd (Qo (Qp (Qq (Qs false)))))]
def Y77:MC:=.r0 Yki
def Ykj:List MO:=[Qa (Qv 11) (Qd (Qn 0)),Qa (Qv 12) (Qk Qt (Qn 11)),Qa (Qv 13) (Qd (Qo (Qp (Qq (Qr Qu 0)))))]
def Y78:MC:=.r0 Ykj
def Ykk:List MO:=[Qa (Qv 14) (Qe Qt Go.BinOp.lss (Qn 13) (Qn 12))]
def Y79:MC:=.r0 Ykk
def X0k:List MO:=[Qa (Qv 15) (Qd (Qn 13)),Qa (Qv 5) (Qd (Qn 15))]
def Yrj:MC:=.r0 X0k
def X0l:List MO:=[Qa (Qv 16) (Qd (Qn 0)),Qa (Qv 17) (Qd (Qn 5)),Qa (Qv 18) (Qj 3 (Qn 16) (Qn 17)),Qa (Qv 19) (Qf 3 true (Qn 18)),Qa (Qv 20) (Qd (Qn 1)),Qa (Qv 21) (Qd (Qn 5)),Qa (Qv 22) (Qj 3 (Qn 20) (Qn 21)),Qa (Qv 23) (Qf 3 true (Qn 22)),Qa (Qv 24) (MOp.eqs true [Qt,Qt,Leaf.s] (Qn 19) (Qn 23))]
def Yrk:MC:=.reg true X0l
def X0m:List MO:=[Qa (Qv 4) (Qd (Qo (Qp (Qq (Qs false)))))]
def Yrl:MC:=.r0 X0m
def X0n:List MO:=[Qa (Qv 25) (Qe Qt Go.BinOp.add (Qn 13) (Qo (Qp (Qq (Qr Qu 1))))),Qa (Qv 13) (Qd (Qn 25))]
def Yrm:MC:=.r0 X0n
def Yrn:MC:=.seq (.blk 1 (.seq Yrj (.seq Yrk (.cond (Qn 24) (.seq Yrl .ret) .skip)))) Yrm
def X0o:List MO:=[Qa (Qv 4) (Qd (Qo (Qp (Qq (Qs true)))))]
def Yro:MC:=.r0 X0o
def Yrp:MC:=.seq (.seq Y78 (.blk 0 (.loop (.seq Y79 (.seq (.cond (Qn 14) .skip (MC.exit 0)) Yrn))))) (.seq Yro .ret)
def X0p:MC:=.seq Y75 (.seq (.seq Y76 (.cond (Qn 10) (.seq Y77 .ret) .skip)) Yrp)
attribute [go_sem] Ykg Ykh Yki Ykj Ykk X0k X0l X0m X0n X0o
theorem Wgj : KK QP 84 f84 [] X0p [(RV.t 4)] 26 := by refine ⟨func84,?_,?_,?_,?_⟩<;>kernel_rfl
theorem Y8a : Xaa QP 84 = true := by kernel_rfl
theorem Y8b (h : GI QP gp [(RV.t 4)] res 26 X0p args) : Does QP gp 84 args res := Wgj.i Y8a h
def Ykl:List MO:=[Qa (Qv 2) (Qd (Qo (Qp (Qq (D.str (ByteArray.mk #[]))))))]
def Y8c:MC:=.r0 Ykl
def Ykm:List MO:=[Qa (Qv 3) (Qd (Qn 0)),Qa (Qv 4) (Qd (Qn 0)),Qa (Qv 5) (Qk Leaf.s (Qn 4)),Qa (Qv 6) (MOp.min (Qn 5) (Qo (Qp (Qq (Qr Qu 100))))),Qa (Qv 7) (MOp.slcS (Qn 3) none (Qv (Qn 6))),Qa (Qv 2) (Qd (Qn 7))]
def Y8d:MC:=.r0 Ykm
def Ykn:MC:=.seq Y8c (.seq Y8d .ret)
attribute [go_sem] Ykl Ykm
theorem Wgk : KK QP 94 f94 [] Ykn [(RV.t 2)] 8 := by refine ⟨func94,?_,?_,?_,?_⟩<;>kernel_rfl
theorem Y8e : Xaa QP 94 = true := by kernel_rfl
theorem Y8f (h : GI QP gp [(RV.t 2)] res 8 Ykn args) : Does QP gp 94 args res := Wgk.i Y8e h
def Yko:List MO:=[Qa (Qv 1) (MOp.ibox (Qn 0)),Qa (Qv 2) (Qd (Qo (Qp (Qq D.nilF))))]
def Y8g:MC:=.r0 Yko
def Ykp:List MO:=[Qa (Qv 3) (MOp.mkF (Go.Fn.func 121) [(Qn 1)]),Qa (Qv 2) (Qd (Qn 3))]
def Y8h:MC:=.r0 Ykp
def Ykq:MC:=.seq Y8g (.seq Y8h .ret)
attribute [go_sem] Yko Ykp
theorem Wgl : KK QP 95 f95 [1] Ykq [(RV.t 2)] 4 := by refine ⟨func95,?_,?_,?_,?_⟩<;>kernel_rfl
theorem Y8i : Xaa QP 95 = true := by kernel_rfl
theorem Y8j (h : GI QP gp [(RV.t 2)] res 4 Ykq args) : Does QP gp 95 args res := Wgl.i Y8i h
def Ykr:List MO:=[Qa (Qv 1) (MOp.ibox (Qn 0)),Qa (Qv 2) (Qd (Qo (Qp (Qq (Qs false)))))]
def Y8k:MC:=.r0 Ykr
def Yks:List MO:=[Qa (Qv 4) (MOp.build [D.nilF,D.nilF,D.nilF] [(0,(1,(Qo (Qp (Qq (D.fn (Go.Fn.func 122) [])))))),(1,(1,(Qo (Qp (Qq (D.fn (Go.Fn.func 123) [])))))),(2,(1,(Qo (Qp (Qq (D.fn (Go.Fn.func 124) []))))))]),Qa (Qv 3) (MOp.alloc [D.nilF,D.nilF,D.nilF]),Qa none (Ql 3 (Qn 3) (Qn 4))]
def Y8l:MC:=.r0 Yks
def Ykt:List MO:=[Qa (Qv 5) (Qg 0 (Qn 1)),Qa (Qv 6) (Qg 0 (Qn 5)),Qa (Qv 7) (Qf 1 false (Qn 6)),Qa (Qv 8) (Qe Qt Go.BinOp.geq (Qn 7) (Qo (Qp (Qq (Qr Qu 0))))),Qa (Qv 9) (Qd (Qn 8)),Qb 9 true (Qv 10),Qa (Qv 10) (Qg 0 (Qn 1)),Qb 9 true (Qv 11),Qa (Qv 11) (Qg 0 (Qn 10)),Qb 9 true (Qv 12),Qa (Qv 12) (Qf 1 false (Qn 11)),Qb 9 true (Qv 13),Qa (Qv 13) (Qe Qt Go.BinOp.lss (Qn 12) (Qo (Qp (Qq (Qr Qu 3))))),Qa (Qv 14) (Qm (Qn 9) (Qn 13) (Qo (Qp (Qq (Qs false))))),Qa (Qv 15) (Qd (Qn 14)),Qb 15 true (Qv 16),Qa (Qv 16) (Qg 0 (Qn 1)),Qb 15 true (Qv 17),Qa (Qv 17) (Qg 0 (Qn 16)),Qb 15 true (Qv 18),Qa (Qv 18) (Qf 1 false (Qn 17)),Qb 15 true (Qv 19),Qa (Qv 19) (MOp.iadA 3 1 (Qn 3) (Qn 18)),Qb 15 true (Qv 20),Qa (Qv 20) (Qf 1 false (Qn 19)),Qb 15 true (Qv 21),Qa (Qv 21) (Qf 7 true (Qn 1)),Qb 15 true (Qv 22),Qc (Qv 22) (MOp.callv (Qn 20) [(Qn 21)]),Qa (Qv 23) (Qm (Qn 15) (Qn 22) (Qo (Qp (Qq (Qs false))))),Qa (Qv 2) (Qd (Qn 23))]
def Y8m:MC:=.reg true Ykt
def Yku:MC:=.seq Y8k (.seq Y8l (.seq Y8m .ret))
attribute [go_sem] Ykr Yks Ykt
theorem Wgm : KK QP 96 f96 [1] Yku [(RV.t 2)] 24 := by refine ⟨func96,?_,?_,?_,?_⟩<;>kernel_rfl
theorem Y8n : Xaa QP 96 = true := by kernel_rfl
theorem Y8o (h : GI QP gp [(RV.t 2)] res 24 Yku args) : Does QP gp 96 args res := Wgm.i Y8n h
def X0q:List MO:=[Qa (Qv 6) (Qd (Qo (Qp (Qq (Qr Qu 20)))))]
def Yrq:MC:=.r0 X0q
def X0r:List MO:=[Qa (Qv 10) (Qd (Qn 6)),Qa (Qv 7) (Qd (Qo (Qp (Qq (Qr Qu 0))))),Qa (Qv 8) (Qd (Qn 10))]
def Yrr:MC:=.r0 X0r
def X0s:List MO:=[Qa (Qv 11) (Qd (Qn 8)),Qa (Qv 12) (Qd (Qn 1)),Qa (Qv 13) (Qe Qt Go.BinOp.leq (Qn 11) (Qn 12))]
def Yrs:MC:=.r0 X0s
def X0t:List MO:=[Qa (Qv 14) (Qd (Qn 0)),Qa (Qv 15) (Qd (Qn 7)),Qa (Qv 16) (Qd (Qn 8)),Qa (Qv 17) (Qd (Qn 2)),Qa (Qv 18) (Qh 134 [(Qn 14),(Qn 15),(Qn 16),(Qn 17)])]
def Yrt:MC:=.r0 X0t
def X0u:List MO:=[Qa (Qv 19) (Qd (Qn 8)),Qa (Qv 7) (Qd (Qn 19))]
def Yru:MC:=.r0 X0u
def X0v:List MO:=[Qa (Qv 20) (Qd (Qn 8)),Qa (Qv 21) (Qd (Qn 6)),Qa (Qv 22) (Qe Qt Go.BinOp.add (Qn 20) (Qn 21)),Qa (Qv 8) (Qd (Qn 22))]
def Yrv:MC:=.r0 X0v
def Yc4:MC:=.seq (.seq Yrs (.cond (Qn 13) .skip (MC.exit 0))) (.blk 1 (.seq Yrt (.seq Yru Yrv)))
def Xst:List MO:=[Qa (Qv 23) (Qd (Qn 0)),Qa (Qv 24) (Qd (Qn 7)),Qa (Qv 25) (Qd (Qn 1)),Qa (Qv 26) (Qd (Qn 2)),Qa (Qv 27) (Qh 134 [(Qn 23),(Qn 24),(Qn 25),(Qn 26)])]
def Yc5:MC:=.r0 Xst
def Xsu:List MO:=[Qa (Qv 28) (Qd (Qn 6)),Qa (Qv 29) (Qd (Qn 1)),Qa (Qv 30) (Qe Qt Go.BinOp.lss (Qn 28) (Qn 29))]
def Yc6:MC:=.r0 Xsu
def Xsv:List MO:=[Qa (Qv 31) (Qd (Qn 6)),Qa (Qv 32) (Qe Qt Go.BinOp.mul (Qo (Qp (Qq (Qr Qu 2)))) (Qn 31)),Qa (Qv 7) (Qd (Qo (Qp (Qq (Qr Qu 0))))),Qa (Qv 8) (Qd (Qn 32))]
def Yc7:MC:=.r0 Xsv
def Xsw:List MO:=[Qa (Qv 33) (Qd (Qn 8)),Qa (Qv 34) (Qd (Qn 1)),Qa (Qv 35) (Qe Qt Go.BinOp.leq (Qn 33) (Qn 34))]
def Yc8:MC:=.r0 Xsw
def Xsx:List MO:=[Qa (Qv 36) (Qd (Qn 0)),Qa (Qv 37) (Qd (Qn 7)),Qa (Qv 38) (Qd (Qn 7)),Qa (Qv 39) (Qd (Qn 6)),Qa (Qv 40) (Qe Qt Go.BinOp.add (Qn 38) (Qn 39)),Qa (Qv 41) (Qd (Qn 8)),Qa (Qv 42) (Qd (Qn 2)),Qa (Qv 43) (Qh 135 [(Qn 36),(Qn 37),(Qn 40),(Qn 41),(Qn 42)])]
def Yc9:MC:=.r0 Xsx
def Xsy:List MO:=[Qa (Qv 44) (Qd (Qn 8)),Qa (Qv 7) (Qd (Qn 44))]
def Yda:MC:=.r0 Xsy
def Xsz:List MO:=[Qa (Qv 45) (Qd (Qn 8)),Qa (Qv 46) (Qd (Qn 6)),Qa (Qv 47) (Qe Qt Go.BinOp.mul (Qo (Qp (Qq (Qr Qu 2)))) (Qn 46)),Qa (Qv 48) (Qe Qt Go.BinOp.add (Qn 45) (Qn 47)),Qa (Qv 8) (Qd (Qn 48))]
def Ydb:MC:=.r0 Xsz
def Ydc:MC:=.seq (.seq Yc8 (.cond (Qn 35) .skip (MC.exit 4))) (.blk 5 (.seq Yc9 (.seq Yda Ydb)))
def Xs0:List MO:=[Qa (Qv 49) (Qd (Qn 7)),Qa (Qv 50) (Qd (Qn 6)),Qa (Qv 51) (Qe Qt Go.BinOp.add (Qn 49) (Qn 50)),Qa (Qv 9) (Qd (Qn 51))]
def Ydd:MC:=.r0 Xs0
def Xs1:List MO:=[Qa (Qv 52) (Qd (Qn 9)),Qa (Qv 53) (Qd (Qn 1)),Qa (Qv 54) (Qe Qt Go.BinOp.lss (Qn 52) (Qn 53))]
def Yde:MC:=.r0 Xs1
def Xs2:List MO:=[Qa (Qv 55) (Qd (Qn 0)),Qa (Qv 56) (Qd (Qn 7)),Qa (Qv 57) (Qd (Qn 9)),Qa (Qv 58) (Qd (Qn 1)),Qa (Qv 59) (Qd (Qn 2)),Qa (Qv 60) (Qh 135 [(Qn 55),(Qn 56),(Qn 57),(Qn 58),(Qn 59)])]
def Ydf:MC:=.r0 Xs2
def Xs3:List MO:=[Qa (Qv 61) (Qd (Qn 6)),Qa (Qv 62) (Qe Qt Go.BinOp.mul (Qn 61) (Qo (Qp (Qq (Qr Qu 2))))),Qa (Qv 6) (Qd (Qn 62))]
def Ydg:MC:=.r0 Xs3
def Ydh:MC:=.seq (.seq Ydd (.seq Yde (.cond (Qn 54) Ydf .skip))) Ydg
def Ydi:MC:=.seq (.seq Yc6 (.cond (Qn 30) .skip (MC.exit 2))) (.blk 3 (.seq Yc7 (.seq (.blk 4 (.loop Ydc)) Ydh)))
def Ydj:MC:=.seq Yrr (.seq (.blk 0 (.loop Yc4)) (.seq Yc5 (.blk 2 (.loop Ydi))))
def Xs4:MC:=.seq Yrq Ydj
attribute [go_sem] X0q X0r X0s X0t X0u X0v Xst Xsu Xsv Xsw Xsx Xsy Xsz Xs0 Xs1 Xs2 Xs3
theorem Y8p : KK QP 105 f105 [] Xs4 [] 63 := by refine ⟨func105,?_,?_,?_,?_⟩<;>kernel_rfl
theorem Yrw : Xaa QP 105 = true := by kernel_rfl
theorem Ydk (h : GT QP gp [] pre R 63 Xs4 args) : Tri QP gp 105 args pre R := Y8p.t h
def X0w:List MO:=[Qa (Qv 2) (Qd (Qo (Qp (Qq (Qr Qu 0)))))]
def Yrx:MC:=.r0 X0w
def X0x:List MO:=[Qa (Qv 3) (Qd (Qo (Qp (Qq (Qr Qu 0)))))]
def Yry:MC:=.r0 X0x
def X0y:List MO:=[Qa (Qv 6) (Qd (Qn 0)),Qa (Qv 7) (Qk Qt (Qn 6)),Qa (Qv 8) (Qd (Qo (Qp (Qq (Qr Qu 0)))))]
def Yrz:MC:=.r0 X0y
def X0z:List MO:=[Qa (Qv 9) (Qe Qt Go.BinOp.lss (Qn 8) (Qn 7))]
def Yr0:MC:=.r0 X0z
def X00:List MO:=[Qa (Qv 10) (Qj 1 (Qn 6) (Qn 8)),Qa (Qv 11) (Qf 1 false (Qn 10)),Qa (Qv 5) (Qd (Qn 11))]
def Yr1:MC:=.r0 X00
def X01:List MO:=[Qa (Qv 12) (Qd (Qn 5)),Qa (Qv 13) (Qd (Qn 3)),Qa (Qv 14) (Qe Qt Go.BinOp.neq (Qn 12) (Qn 13))]
def Yr2:MC:=.r0 X01
def X02:List MO:=[Qa (Qv 15) (Qd (Qn 5)),Qa (Qv 2) (Qd (Qn 15))]
def Yr3:MC:=.r0 X02
def Xs5:List MO:=[Qa (Qv 16) (Qe Qt Go.BinOp.add (Qn 8) (Qo (Qp (Qq (Qr Qu 1))))),Qa (Qv 8) (Qd (Qn 16))]
def Ydl:MC:=.r0 Xs5
def Ydm:MC:=.seq (.blk 1 (.seq Yr1 (.seq Yr2 (.cond (Qn 14) (.seq Yr3 .ret) .skip)))) Ydl
def Xs6:List MO:=[Qa (Qv 17) (Qd (Qn 3)),Qa (Qv 2) (Qd (Qn 17))]
def Ydn:MC:=.r0 Xs6
def Ydo:MC:=.seq (.seq Yrz (.blk 0 (.loop (.seq Yr0 (.seq (.cond (Qn 9) .skip (MC.exit 0)) Ydm))))) (.seq Ydn .ret)
def Xs7:MC:=.seq Yrx (.seq Yry Ydo)
attribute [go_sem] X0w X0x X0y X0z X00 X01 X02 Xs5 Xs6
theorem Y8q : KK QP 106 f106 [] Xs7 [(RV.t 2)] 18 := by refine ⟨func106,?_,?_,?_,?_⟩<;>kernel_rfl
theorem Yr4 : Xaa QP 106 = true := by kernel_rfl
theorem Yr5 (h : GI QP gp [(RV.t 2)] res 18 Xs7 args) : Does QP gp 106 args res := Y8q.i Yr4 h
def X03:List MO:=[Qa (Qv 4) (Qd (Qo (Qp (Qq (Qr Qu 0)))))]
def Yr6:MC:=.r0 X03
def X04:List MO:=[Qa (Qv 7) (Qd (Qn 0)),Qa (Qv 8) (Qh 136 [(Qn 7)]),Qa (Qv 5) (Qd (Qn 8))]
def Yr7:MC:=.r0 X04
def X05:List MO:=[Qa (Qv 9) (Qd (Qn 1)),Qa (Qv 10) (Qh 136 [(Qn 9)]),Qa (Qv 6) (Qd (Qn 10))]
def Yr8:MC:=.r0 X05
def X06:List MO:=[Qa (Qv 11) (Qd (Qn 5))]
def Yr9:MC:=.r0 X06
def X07:List MO:=[Qa (Qv 12) (Qd (Qn 6))]
def Ysa:MC:=.r0 X07
def X08:List MO:=[Qa (Qv 4) (Qd (Qo (Qp (Qq (Qr Qu 0)))))]
def Ysb:MC:=.r0 X08
def Xs8:List MO:=[Qa (Qv 4) (Qd (Qo (Qp (Qq (Qr Qu (-1))))))]
def Ydp:MC:=.r0 Xs8
def Ydq:MC:=.seq Yr9 (.cond (Qn 11) (.seq (.seq Ysa (.cond (Qn 12) (.seq Ysb .ret) .skip)) (.seq Ydp .ret)) .skip)
def Xs9:List MO:=[Qa (Qv 13) (Qd (Qn 6))]
def Ydr:MC:=.r0 Xs9
def Xta:List MO:=[Qa (Qv 4) (Qd (Qo (Qp (Qq (Qr Qu 1)))))]
def Yds:MC:=.r0 Xta
def Xtb:List MO:=[Qa (Qv 14) (Qd (Qn 0)),Qa (Qv 15) (Qd (Qn 1)),Qa (Qv 16) (Qe Qt Go.BinOp.lss (Qn 14) (Qn 15))]
def Ydt:MC:=.r0 Xtb
def Xtc:List MO:=[Qa (Qv 4) (Qd (Qo (Qp (Qq (Qr Qu (-1))))))]
def Ydu:MC:=.r0 Xtc
def Xtd:List MO:=[Qa (Qv 17) (Qd (Qn 0)),Qa (Qv 18) (Qd (Qn 1)),Qa (Qv 19) (Qe Qt Go.BinOp.gtr (Qn 17) (Qn 18))]
def Ydv:MC:=.r0 Xtd
def Xte:List MO:=[Qa (Qv 4) (Qd (Qo (Qp (Qq (Qr Qu 1)))))]
def Ydw:MC:=.r0 Xte
def Xtf:List MO:=[Qa (Qv 4) (Qd (Qo (Qp (Qq (Qr Qu 0)))))]
def Ydx:MC:=.r0 Xtf
def Ydy:MC:=.seq (.seq Ydt (.cond (Qn 16) (.seq Ydu .ret) .skip)) (.seq (.seq Ydv (.cond (Qn 19) (.seq Ydw .ret) .skip)) (.seq Ydx .ret))
def Ydz:MC:=.seq Ydq (.seq (.seq Ydr (.cond (Qn 13) (.seq Yds .ret) .skip)) Ydy)
def Xtg:MC:=.seq Yr6 (.seq Yr7 (.seq Yr8 Ydz))
attribute [go_sem] X03 X04 X05 X06 X07 X08 Xs8 Xs9 Xta Xtb Xtc Xtd Xte Xtf
theorem Y8r : KK QP 107 f107 [] Xtg [(RV.t 4)] 20 := by refine ⟨func107,?_,?_,?_,?_⟩<;>kernel_rfl
theorem Ysc : Xaa QP 107 = true := by kernel_rfl
theorem Ysd (h : GI QP gp [(RV.t 4)] res 20 Xtg args) : Does QP gp 107 args res := Y8r.i Ysc h
def X09:List MO:=[Qa (Qv 4) (Qd (Qo (Qp (Qq (Qr Qu 0)))))]
def Yse:MC:=.r0 X09
def X1a:List MO:=[Qa (Qv 7) (Qd (Qn 0)),Qa (Qv 8) (Qh 137 [(Qn 7)]),Qa (Qv 5) (Qd (Qn 8))]
def Ysf:MC:=.r0 X1a
def X1b:List MO:=[Qa (Qv 9) (Qd (Qn 1)),Qa (Qv 10) (Qh 137 [(Qn 9)]),Qa (Qv 6) (Qd (Qn 10))]
def Ysg:MC:=.r0 X1b
def X1c:List MO:=[Qa (Qv 11) (Qd (Qn 5))]
def Ysh:MC:=.r0 X1c
def X1d:List MO:=[Qa (Qv 12) (Qd (Qn 6))]
def Ysi:MC:=.r0 X1d
def X1e:List MO:=[Qa (Qv 4) (Qd (Qo (Qp (Qq (Qr Qu 0)))))]
def Ysj:MC:=.r0 X1e
def Xth:List MO:=[Qa (Qv 4) (Qd (Qo (Qp (Qq (Qr Qu (-1))))))]
def Yd0:MC:=.r0 Xth
def Yd1:MC:=.seq Ysh (.cond (Qn 11) (.seq (.seq Ysi (.cond (Qn 12) (.seq Ysj .ret) .skip)) (.seq Yd0 .ret)) .skip)
def Xti:List MO:=[Qa (Qv 13) (Qd (Qn 6))]
def Yd2:MC:=.r0 Xti
def Xtj:List MO:=[Qa (Qv 4) (Qd (Qo (Qp (Qq (Qr Qu 1)))))]
def Yd3:MC:=.r0 Xtj
def Xtk:List MO:=[Qa (Qv 14) (Qd (Qn 0)),Qa (Qv 15) (Qd (Qn 1)),Qa (Qv 16) (Qe Leaf.s Go.BinOp.lss (Qn 14) (Qn 15))]
def Yd4:MC:=.r0 Xtk
def Xtl:List MO:=[Qa (Qv 4) (Qd (Qo (Qp (Qq (Qr Qu (-1))))))]
def Yd5:MC:=.r0 Xtl
def Xtm:List MO:=[Qa (Qv 17) (Qd (Qn 0)),Qa (Qv 18) (Qd (Qn 1)),Qa (Qv 19) (Qe Leaf.s Go.BinOp.gtr (Qn 17) (Qn 18))]
def Yd6:MC:=.r0 Xtm
def Xtn:List MO:=[Qa (Qv 4) (Qd (Qo (Qp (Qq (Qr Qu 1)))))]
def Yd7:MC:=.r0 Xtn
def Xto:List MO:=[Qa (Qv 4) (Qd (Qo (Qp (Qq (Qr Qu 0)))))]
def Yd8:MC:=.r0 Xto
def Yd9:MC:=.seq (.seq Yd4 (.cond (Qn 16) (.seq Yd5 .ret) .skip)) (.seq (.seq Yd6 (.cond (Qn 19) (.seq Yd7 .ret) .skip)) (.seq Yd8 .ret))
def Yea:MC:=.seq Yd1 (.seq (.seq Yd2 (.cond (Qn 13) (.seq Yd3 .ret) .skip)) Yd9)
def Xtp:MC:=.seq Yse (.seq Ysf (.seq Ysg Yea))
attribute [go_sem] X09 X1a X1b X1c X1d X1e Xth Xti Xtj Xtk Xtl Xtm Xtn Xto
theorem Y8s : KK QP 108 f108 [] Xtp [(RV.t 4)] 20 := by refine ⟨func108,?_,?_,?_,?_⟩<;>kernel_rfl
theorem Ysk : Xaa QP 108 = true := by kernel_rfl
theorem Ysl (h : GI QP gp [(RV.t 4)] res 20 Xtp args) : Does QP gp 108 args res := Y8s.i Ysk h
def X1f:List MO:=[Qa (Qv 5) (Qg 1 (Qn 1)),Qa (Qv 6) (Qf 1 false (Qn 5)),Qa (Qv 7) (Qk Qt (Qn 6)),Qa (Qv 8) (Qd (Qo (Qp (Qq (Qr Qu 0)))))]
def Ysm:MC:=.r0 X1f
def X1g:List MO:=[Qa (Qv 9) (Qe Qt Go.BinOp.lss (Qn 8) (Qn 7))]
def Ysn:MC:=.r0 X1g
def X1h:List MO:=[Qa (Qv 10) (Qd (Qn 8)),Qa (Qv 11) (Qj 6 (Qn 6) (Qn 8)),Qa (Qv 12) (Qf 6 true (Qn 11)),Qa (Qv 4) (MOp.alloc [(Qr Qu 0),(Qr Qu 0),(Qr Qu 0),(D.str (ByteArray.mk #[])),(D.sl []),(D.sl [])]),Qa (Qv 3) (Qd (Qn 10)),Qa none (Ql 6 (Qn 4) (Qn 12))]
def Yso:MC:=.r0 X1h
def X1i:List MO:=[Qa (Qv 13) (Qd (Qn 0)),Qa (Qv 14) (Qd (Qn 3)),Qa (Qv 15) (Qf 6 true (Qn 4)),Qa (Qv 16) (Qg 1 (Qn 1)),Qa (Qv 17) (Qf 1 false (Qn 16)),Qa (Qv 18) (Qk Qt (Qn 17)),Qa (Qv 19) (MOp.build [(Qr Qu 0),(Qr Qu 0),(Qr Qu 0),(D.str (ByteArray.mk #[])),(D.sl []),(D.sl []),(Qr Qu 0)] [(0,(6,(Qn 15))),(6,(1,(Qn 18)))]),Qa (Qv 20) (MOp.callv (Qn 13) [(Qn 14),(Qn 19)]),Qa (Qv 21) (MOp.not (Qn 20))]
def Ysp:MC:=.r0 X1i
def Xtq:List MO:=[Qa (Qv 22) (Qe Qt Go.BinOp.add (Qn 8) (Qo (Qp (Qq (Qr Qu 1))))),Qa (Qv 8) (Qd (Qn 22))]
def Yeb:MC:=.r0 Xtq
def Yec:MC:=.seq Ysn (.seq (.cond (Qn 9) .skip (MC.exit 0)) (.seq (.blk 1 (.seq Yso (.seq Ysp (.cond (Qn 21) (MC.exit 0) .skip)))) Yeb))
def Xtr:MC:=.scope (.seq .skip (.seq Ysm (.blk 0 (.loop Yec))))
attribute [go_sem] X1f X1g X1h X1i Xtq
theorem Y8t : KK QP 121 f121 [] Xtr [] 23 := by refine ⟨func121,?_,?_,?_,?_⟩<;>kernel_rfl
theorem Ysq : Xaa QP 121 = true := by kernel_rfl
theorem Yed (h : GT QP gp [] pre R 23 Xtr args) : Tri QP gp 121 args pre R := Y8t.t h
def X1j:List MO:=[Qa (Qv 1) (MOp.ibox (Qn 0)),Qa (Qv 2) (Qd (Qo (Qp (Qq (Qs false)))))]
def Ysr:MC:=.r0 X1j
def X1k:List MO:=[Qa (Qv 3) (Qg 0 (Qn 1)),Qa (Qv 4) (Qg 1 (Qn 3)),Qa (Qv 5) (Qf 3 true (Qn 4)),Qa (Qv 6) (Qh 127 [(Qn 5)]),Qa (Qv 7) (Qg 0 (Qn 1)),Qa (Qv 8) (Qg 4 (Qn 7)),Qa (Qv 9) (Qf 1 false (Qn 8)),Qa (Qv 10) (Qk Qt (Qn 9)),Qa (Qv 11) (Qe Qt Go.BinOp.eql (Qn 10) (Qo (Qp (Qq (Qr Qu 0))))),Qa (Qv 12) (Qg 0 (Qn 1)),Qa (Qv 13) (Qg 5 (Qn 12)),Qa (Qv 14) (Qf 1 false (Qn 13)),Qa (Qv 15) (Qk Qt (Qn 14)),Qa (Qv 16) (Qe Qt Go.BinOp.eql (Qn 15) (Qo (Qp (Qq (Qr Qu 0))))),Qa (Qv 17) (MOp.bslice 1 [(Qs false)] 3 [(0,(Qn 6)),(1,(Qn 11)),(2,(Qn 16))]),Qc (Qv 18) (Qh 143 [(Qn 17)]),Qa (Qv 2) (Qd (Qn 18))]
def Yss:MC:=.reg true X1k
def X1l:MC:=.seq Ysr (.seq Yss .ret)
attribute [go_sem] X1j X1k
theorem Y8u : KK QP 122 f122 [1] X1l [(RV.t 2)] 19 := by refine ⟨func122,?_,?_,?_,?_⟩<;>kernel_rfl
theorem Yst : Xaa QP 122 = true := by kernel_rfl
theorem Ysu (h : GI QP gp [(RV.t 2)] res 19 X1l args) : Does QP gp 122 args res := Y8u.i Yst h
def X1m:List MO:=[Qa (Qv 1) (MOp.ibox (Qn 0)),Qa (Qv 2) (Qd (Qo (Qp (Qq (Qs false)))))]
def Ysv:MC:=.r0 X1m
def X1n:List MO:=[Qa (Qv 3) (Qg 0 (Qn 1)),Qa (Qv 4) (Qg 1 (Qn 3)),Qa (Qv 5) (Qf 3 true (Qn 4)),Qa (Qv 6) (MOp.build [(Qr Qu 0),(Qr Qu 0),(D.str (ByteArray.mk #[]))] []),Qa (Qv 7) (MOp.eqs false [Qt,Qt,Leaf.s] (Qn 5) (Qn 6)),Qa (Qv 8) (Qg 0 (Qn 1)),Qa (Qv 9) (Qg 4 (Qn 8)),Qa (Qv 10) (Qf 1 false (Qn 9)),Qa (Qv 11) (Qk Qt (Qn 10)),Qa (Qv 12) (Qe Qt Go.BinOp.eql (Qn 11) (Qo (Qp (Qq (Qr Qu 0))))),Qa (Qv 13) (Qf 7 true (Qn 1)),Qa (Qv 14) (Qh 144 [(Qn 13)]),Qa (Qv 15) (MOp.bslice 1 [(Qs false)] 3 [(0,(Qn 7)),(1,(Qn 12)),(2,(Qn 14))]),Qc (Qv 16) (Qh 143 [(Qn 15)]),Qa (Qv 2) (Qd (Qn 16))]
def Ysw:MC:=.reg true X1n
def X1o:MC:=.seq Ysv (.seq Ysw .ret)
attribute [go_sem] X1m X1n
theorem Y8v : KK QP 123 f123 [1] X1o [(RV.t 2)] 17 := by refine ⟨func123,?_,?_,?_,?_⟩<;>kernel_rfl
theorem Ysx : Xaa QP 123 = true := by kernel_rfl
theorem Ysy (h : GI QP gp [(RV.t 2)] res 17 X1o args) : Does QP gp 123 args res := Y8v.i Ysx h
def X1p:List MO:=[Qa (Qv 1) (MOp.ibox (Qn 0)),Qa (Qv 2) (Qd (Qo (Qp (Qq (Qs false)))))]
def Ysz:MC:=.r0 X1p
def X1q:List MO:=[Qa (Qv 3) (Qg 0 (Qn 1)),Qa (Qv 4) (Qg 1 (Qn 3)),Qa (Qv 5) (Qf 3 true (Qn 4)),Qa (Qv 6) (MOp.build [(Qr Qu 0),(Qr Qu 0),(D.str (ByteArray.mk #[]))] []),Qa (Qv 7) (MOp.eqs false [Qt,Qt,Leaf.s] (Qn 5) (Qn 6)),Qa (Qv 8) (Qf 7 true (Qn 1)),Qa (Qv 9) (Qh 79 [(Qn 8)]),Qa (Qv 10) (Qf 7 true (Qn 1)),Qa (Qv 11) (Qh 145 [(Qn 10)]),Qa (Qv 12) (Qf 7 true (Qn 1)),Qa (Qv 13) (Qh 144 [(Qn 12)]),Qa (Qv 14) (MOp.bslice 1 [(Qs false)] 4 [(0,(Qn 7)),(1,(Qn 9)),(2,(Qn 11)),(3,(Qn 13))]),Qc (Qv 15) (Qh 143 [(Qn 14)]),Qa (Qv 2) (Qd (Qn 15))]
def Ys0:MC:=.reg true X1q
def X1r:MC:=.seq Ysz (.seq Ys0 .ret)
attribute [go_sem] X1p X1q
theorem Y8w : KK QP 124 f124 [1] X1r [(RV.t 2)] 16 := by refine ⟨func124,?_,?_,?_,?_⟩<;>kernel_rfl
theorem Ys1 : Xaa QP 124 = true := by kernel_rfl
theorem Ys2 (h : GI QP gp [(RV.t 2)] res 16 X1r args) : Does QP gp 124 args res := Y8w.i Ys1 h
def X1s:List MO:=[Qa (Qv 1) (MOp.ibox (Qn 0)),Qa (Qv 2) (Qd (Qo (Qp (Qq (Qs false)))))]
def Ys3:MC:=.r0 X1s
def X1t:List MO:=[Qa (Qv 3) (Qg 0 (Qn 1)),Qa (Qv 4) (Qf 1 false (Qn 3))]
def Ys4:MC:=.r0 X1t
def X1u:List MO:=[Qa (Qv 6) (Qe Qt Go.BinOp.eql (Qn 4) (Qo (Qp (Qq (Qr Qu 0))))),Qa (Qv 5) (Qd (Qn 6))]
def Ys5:MC:=.r0 X1u
def X1v:List MO:=[Qa (Qv 7) (Qf 3 true (Qn 1)),Qa (Qv 8) (MOp.build [(Qr Qu 0),(Qr Qu 0),(D.str (ByteArray.mk #[]))] []),Qa (Qv 9) (MOp.eqs false [Qt,Qt,Leaf.s] (Qn 7) (Qn 8)),Qa (Qv 2) (Qd (Qn 9))]
def Ys6:MC:=.r0 X1v
def X1w:List MO:=[Qa (Qv 11) (Qe Qt Go.BinOp.eql (Qn 4) (Qo (Qp (Qq (Qr Qu 1))))),Qa (Qv 10) (Qd (Qn 11))]
def Ys7:MC:=.r0 X1w
def X1x:List MO:=[Qa (Qv 12) (Qg 2 (Qn 1)),Qa (Qv 13) (Qf 1 false (Qn 12)),Qa (Qv 14) (Qe Leaf.s Go.BinOp.eql (Qn 13) (Qo (Qp (Qq (D.str (ByteArray.mk #[])))))),Qa (Qv 15) (Qd (Qn 14)),Qb 15 true (Qv 16),Qa (Qv 16) (Qg 1 (Qn 1)),Qb 15 true (Qv 17),Qa (Qv 17) (Qf 1 false (Qn 16)),Qb 15 true (Qv 18),Qa (Qv 18) (Qe Qt Go.BinOp.eql (Qn 17) (Qo (Qp (Qq (Qr Qu 0))))),Qb 15 true (Qv 19),Qa (Qv 19) (Qd (Qn 18)),Qb 19 false (Qv 20),Qa (Qv 20) (Qg 1 (Qn 1)),Qb 19 false (Qv 21),Qa (Qv 21) (Qf 1 false (Qn 20)),Qb 19 false (Qv 22),Qa (Qv 22) (Qe Qt Go.BinOp.eql (Qn 21) (Qo (Qp (Qq (Qr Qu 1))))),Qb 15 true (Qv 23),Qa (Qv 23) (Qm (Qn 19) (Qo (Qp (Qq (Qs true)))) (Qn 22)),Qa (Qv 24) (Qm (Qn 15) (Qn 23) (Qo (Qp (Qq (Qs false))))),Qa (Qv 2) (Qd (Qn 24))]
def Ys8:MC:=.r0 X1x
def Xts:List MO:=[Qa (Qv 26) (Qe Qt Go.BinOp.eql (Qn 4) (Qo (Qp (Qq (Qr Qu 2))))),Qa (Qv 25) (Qd (Qn 26))]
def Yee:MC:=.r0 Xts
def Xtt:List MO:=[Qa (Qv 27) (Qg 2 (Qn 1)),Qa (Qv 28) (Qf 1 false (Qn 27)),Qa (Qv 29) (Qe Leaf.s Go.BinOp.eql (Qn 28) (Qo (Qp (Qq (D.str (ByteArray.mk #[])))))),Qa (Qv 30) (Qd (Qn 29)),Qb 30 true (Qv 31),Qa (Qv 31) (Qg 1 (Qn 1)),Qb 30 true (Qv 32),Qa (Qv 32) (Qf 1 false (Qn 31)),Qb 30 true (Qv 33),Qa (Qv 33) (Qe Qt Go.BinOp.geq (Qn 32) (Qo (Qp (Qq (Qr Qu (-999999999999999)))))),Qa (Qv 34) (Qm (Qn 30) (Qn 33) (Qo (Qp (Qq (Qs false))))),Qa (Qv 35) (Qd (Qn 34)),Qb 35 true (Qv 36),Qa (Qv 36) (Qg 1 (Qn 1)),Qb 35 true (Qv 37),Qa (Qv 37) (Qf 1 false (Qn 36)),Qb 35 true (Qv 38),Qa (Qv 38) (Qe Qt Go.BinOp.leq (Qn 37) (Qo (Qp (Qq (Qr Qu 999999999999999))))),Qa (Qv 39) (Qm (Qn 35) (Qn 38) (Qo (Qp (Qq (Qs false))))),Qa (Qv 2) (Qd (Qn 39))]
def Yef:MC:=.r0 Xtt
def Xtu:List MO:=[Qa (Qv 41) (Qe Qt Go.BinOp.eql (Qn 4) (Qo (Qp (Qq (Qr Qu 3))))),Qa (Qv 40) (Qd (Qn 41))]
def Yeg:MC:=.r0 Xtu
def Xtv:List MO:=[Qa (Qv 42) (Qg 1 (Qn 1)),Qa (Qv 43) (Qf 1 false (Qn 42)),Qa (Qv 44) (Qe Qt Go.BinOp.eql (Qn 43) (Qo (Qp (Qq (Qr Qu 0))))),Qa (Qv 45) (Qd (Qn 44)),Qb 45 true (Qv 46),Qa (Qv 46) (Qg 2 (Qn 1)),Qb 45 true (Qv 47),Qa (Qv 47) (Qf 1 false (Qn 46)),Qb 45 true (Qv 48),Qa (Qv 48) (Qh 147 [(Qn 47)]),Qa (Qv 49) (Qm (Qn 45) (Qn 48) (Qo (Qp (Qq (Qs false))))),Qa (Qv 2) (Qd (Qn 49))]
def Yeh:MC:=.r0 Xtv
def Yei:MC:=.seq Yee (.cond (Qn 25) (.seq Yef .ret) (.seq Yeg (.cond (Qn 40) (.seq Yeh .ret) .skip)))
def Yej:MC:=.cond (Qn 5) (.seq Ys6 .ret) (.seq Ys7 (.cond (Qn 10) (.seq Ys8 .ret) Yei))
def Xtw:List MO:=[Qa (Qv 2) (Qd (Qo (Qp (Qq (Qs false)))))]
def Yek:MC:=.r0 Xtw
def Yel:MC:=.seq (.seq Ys4 (.blk 0 (.seq Ys5 Yej))) (.seq Yek .ret)
def Xtx:MC:=.seq Ys3 Yel
attribute [go_sem] X1s X1t X1u X1v X1w X1x Xts Xtt Xtu Xtv Xtw
theorem Y8x : KK QP 127 f127 [1] Xtx [(RV.t 2)] 50 := by refine ⟨func127,?_,?_,?_,?_⟩<;>kernel_rfl
theorem Ys9 : Xaa QP 127 = true := by kernel_rfl
theorem Yta (h : GI QP gp [(RV.t 2)] res 50 Xtx args) : Does QP gp 127 args res := Y8x.i Ys9 h
def X1y:List MO:=[Qa (Qv 10) (Qd (Qn 1)),Qa (Qv 11) (Qe Qt Go.BinOp.add (Qn 10) (Qo (Qp (Qq (Qr Qu 1))))),Qa (Qv 8) (Qd (Qn 11))]
def Ytb:MC:=.r0 X1y
def X1z:List MO:=[Qa (Qv 12) (Qd (Qn 8)),Qa (Qv 13) (Qd (Qn 2)),Qa (Qv 14) (Qe Qt Go.BinOp.lss (Qn 12) (Qn 13))]
def Ytc:MC:=.r0 X1z
def X10:List MO:=[Qa (Qv 17) (Qd (Qn 8)),Qa (Qv 9) (Qd (Qn 17))]
def Ytd:MC:=.r0 X10
def X11:List MO:=[Qa (Qv 18) (Qd (Qn 9)),Qa (Qv 19) (Qd (Qn 1)),Qa (Qv 20) (Qe Qt Go.BinOp.gtr (Qn 18) (Qn 19)),Qa (Qv 21) (Qd (Qn 20)),Qb 21 true (Qv 22),Qa (Qv 22) (Qd (Qn 3)),Qb 21 true (Qv 23),Qa (Qv 23) (Qd (Qn 0)),Qb 21 true (Qv 24),Qa (Qv 24) (Qd (Qn 9)),Qb 21 true (Qv 25),Qa (Qv 25) (Qj 4 (Qn 23) (Qn 24)),Qb 21 true (Qv 26),Qa (Qv 26) (Qf 4 true (Qn 25)),Qb 21 true (Qv 27),Qa (Qv 27) (Qd (Qn 0)),Qb 21 true (Qv 28),Qa (Qv 28) (Qd (Qn 9)),Qb 21 true (Qv 29),Qa (Qv 29) (Qe Qt Go.BinOp.sub (Qn 28) (Qo (Qp (Qq (Qr Qu 1))))),Qb 21 true (Qv 30),Qa (Qv 30) (Qj 4 (Qn 27) (Qn 29)),Qb 21 true (Qv 31),Qa (Qv 31) (Qf 4 true (Qn 30)),Qb 21 true (Qv 32),Qc (Qv 32) (MOp.callv (Qn 22) [(Qn 26),(Qn 31)]),Qb 21 true (Qv 33),Qa (Qv 33) (Qe Qt Go.BinOp.lss (Qn 32) (Qo (Qp (Qq (Qr Qu 0))))),Qa (Qv 34) (Qm (Qn 21) (Qn 33) (Qo (Qp (Qq (Qs false)))))]
def Yte:MC:=.reg true X11
def Xty:List MO:=[Qa (Qv 37) (Qd (Qn 0)),Qa (Qv 38) (Qd (Qn 9)),Qa (Qv 39) (Qd (Qn 0)),Qa (Qv 40) (Qd (Qn 9)),Qa (Qv 41) (Qe Qt Go.BinOp.sub (Qn 40) (Qo (Qp (Qq (Qr Qu 1))))),Qa (Qv 42) (Qd (Qn 0)),Qa (Qv 43) (Qd (Qn 9)),Qa (Qv 44) (Qe Qt Go.BinOp.sub (Qn 43) (Qo (Qp (Qq (Qr Qu 1))))),Qa (Qv 45) (Qj 4 (Qn 42) (Qn 44)),Qa (Qv 46) (Qf 4 true (Qn 45)),Qa (Qv 47) (Qd (Qn 0)),Qa (Qv 48) (Qd (Qn 9)),Qa (Qv 49) (Qj 4 (Qn 47) (Qn 48)),Qa (Qv 50) (Qf 4 true (Qn 49)),Qa (Qv 51) (Qj 4 (Qn 37) (Qn 38)),Qa none (Ql 4 (Qn 51) (Qn 46)),Qa (Qv 52) (Qj 4 (Qn 39) (Qn 41)),Qa none (Ql 4 (Qn 52) (Qn 50))]
def Yem:MC:=.reg true Xty
def Xtz:List MO:=[Qa (Qv 35) (Qd (Qn 9)),Qa (Qv 36) (Qe Qt Go.BinOp.sub (Qn 35) (Qo (Qp (Qq (Qr Qu 1))))),Qa (Qv 9) (Qd (Qn 36))]
def Yen:MC:=.r0 Xtz
def Yeo:MC:=.seq Ytd (.blk 2 (.loop (.seq (.seq Yte (.cond (Qn 34) .skip (MC.exit 2))) (.seq (.blk 3 Yem) Yen))))
def Xt0:List MO:=[Qa (Qv 15) (Qd (Qn 8)),Qa (Qv 16) (Qe Qt Go.BinOp.add (Qn 15) (Qo (Qp (Qq (Qr Qu 1))))),Qa (Qv 8) (Qd (Qn 16))]
def Yep:MC:=.r0 Xt0
def Xt1:MC:=.seq Ytb (.blk 0 (.loop (.seq (.seq Ytc (.cond (Qn 14) .skip (MC.exit 0))) (.seq (.blk 1 Yeo) Yep))))
attribute [go_sem] X1y X1z X10 X11 Xty Xtz Xt0
theorem Y8y : KK QP 134 f134 [] Xt1 [] 53 := by refine ⟨func134,?_,?_,?_,?_⟩<;>kernel_rfl
theorem Ytf : Xaa QP 134 = true := by kernel_rfl
theorem Yeq (h : GT QP gp [] pre R 53 Xt1 args) : Tri QP gp 134 args pre R := Y8y.t h
def X12:List MO:=[Qa (Qv 2) (Qd (Qo (Qp (Qq (Qs false)))))]
def Ytg:MC:=.r0 X12
def X13:List MO:=[Qa (Qv 3) (Qd (Qn 0)),Qa (Qv 4) (Qd (Qn 0)),Qa (Qv 5) (Qe Qt Go.BinOp.neq (Qn 3) (Qn 4)),Qa (Qv 2) (Qd (Qn 5))]
def Yth:MC:=.r0 X13
def X14:MC:=.seq Ytg (.seq Yth .ret)
attribute [go_sem] X12 X13
theorem Y8z : KK QP 136 f136 [] X14 [(RV.t 2)] 6 := by refine ⟨func136,?_,?_,?_,?_⟩<;>kernel_rfl
theorem Yti : Xaa QP 136 = true := by kernel_rfl
theorem Ytj (h : GI QP gp [(RV.t 2)] res 6 X14 args) : Does QP gp 136 args res := Y8z.i Yti h
def X15:List MO:=[Qa (Qv 2) (Qd (Qo (Qp (Qq (Qs false)))))]
def Ytk:MC:=.r0 X15
def X16:List MO:=[Qa (Qv 3) (Qd (Qn 0)),Qa (Qv 4) (Qd (Qn 0)),Qa (Qv 5) (Qe Leaf.s Go.BinOp.neq (Qn 3) (Qn 4)),Qa (Qv 2) (Qd (Qn 5))]
def Ytl:MC:=.r0 X16
def X17:MC:=.seq Ytk (.seq Ytl .ret)
attribute [go_sem] X15 X16
theorem Y80 : KK QP 137 f137 [] X17 [(RV.t 2)] 6 := by refine ⟨func137,?_,?_,?_,?_⟩<;>kernel_rfl
theorem Ytm : Xaa QP 137 = true := by kernel_rfl
theorem Ytn (h : GI QP gp [(RV.t 2)] res 6 X17 args) : Does QP gp 137 args res := Y80.i Ytm h
def X18:List MO:=[Qa (Qv 2) (Qd (Qo (Qp (Qq (Qs false)))))]
def Yto:MC:=.r0 X18
def X19:List MO:=[Qa (Qv 3) (Qd (Qn 0)),Qa (Qv 4) (Qh 154 [(Qn 3),(Qo (Qp (Qq (Qs false))))]),Qa (Qv 5) (MOp.not (Qn 4)),Qa (Qv 2) (Qd (Qn 5))]
def Ytp:MC:=.r0 X19
def X2a:MC:=.seq Yto (.seq Ytp .ret)
attribute [go_sem] X18 X19
theorem Y81 : KK QP 143 f143 [] X2a [(RV.t 2)] 6 := by refine ⟨func143,?_,?_,?_,?_⟩<;>kernel_rfl
theorem Ytq : Xaa QP 143 = true := by kernel_rfl
theorem Ytr (h : GI QP gp [(RV.t 2)] res 6 X2a args) : Does QP gp 143 args res := Y81.i Ytq h
def X2b:List MO:=[Qa (Qv 1) (MOp.ibox (Qn 0)),Qa (Qv 2) (Qd (Qo (Qp (Qq (Qs false)))))]
def Yts:MC:=.r0 X2b
def X2c:List MO:=[Qa (Qv 4) (MOp.mkF (Go.Fn.func 155) [(Qn 1)]),Qa (Qv 3) (Qd (Qn 4))]
def Ytt:MC:=.r0 X2c
def X2d:List MO:=[Qa (Qv 5) (Qg 0 (Qn 1)),Qa (Qv 6) (Qg 5 (Qn 5)),Qa (Qv 7) (Qf 1 false (Qn 6)),Qa (Qv 8) (Qd (Qn 3)),Qa (Qv 9) (Qh 156 [(Qn 7),(Qn 8)]),Qa (Qv 10) (MOp.not (Qn 9)),Qa (Qv 2) (Qd (Qn 10))]
def Ytu:MC:=.r0 X2d
def X2e:MC:=.seq Yts (.seq Ytt (.seq Ytu .ret))
attribute [go_sem] X2b X2c X2d
theorem Y82 : KK QP 144 f144 [1] X2e [(RV.t 2)] 11 := by refine ⟨func144,?_,?_,?_,?_⟩<;>kernel_rfl
theorem Ytv : Xaa QP 144 = true := by kernel_rfl
theorem Ytw (h : GI QP gp [(RV.t 2)] res 11 X2e args) : Does QP gp 144 args res := Y82.i Ytv h
def X2f:List MO:=[Qa (Qv 1) (MOp.ibox (Qn 0)),Qa (Qv 2) (Qd (Qo (Qp (Qq (Qs false)))))]
def Ytx:MC:=.r0 X2f
def X2g:List MO:=[Qa (Qv 3) (Qd (Qo (Qp (Qq (D.fn (Go.Fn.func 157) [])))))]
def Yty:MC:=.r0 X2g
def X2h:List MO:=[Qa (Qv 4) (Qg 0 (Qn 1)),Qa (Qv 5) (Qg 4 (Qn 4)),Qa (Qv 6) (Qf 1 false (Qn 5)),Qa (Qv 7) (Qd (Qn 3)),Qa (Qv 8) (Qh 158 [(Qn 6),(Qn 7)]),Qa (Qv 9) (MOp.not (Qn 8)),Qa (Qv 10) (Qd (Qn 9)),Qb 10 true (Qv 11),Qa (Qv 11) (Qg 0 (Qn 1)),Qb 10 true (Qv 12),Qa (Qv 12) (Qg 4 (Qn 11)),Qb 10 true (Qv 13),Qa (Qv 13) (Qf 1 false (Qn 12)),Qb 10 true (Qv 14),Qa (Qv 14) (Qh 159 [(Qn 13)]),Qb 10 true (Qv 15),Qa (Qv 15) (MOp.not (Qn 14)),Qa (Qv 16) (Qm (Qn 10) (Qn 15) (Qo (Qp (Qq (Qs false))))),Qa (Qv 2) (Qd (Qn 16))]
def Ytz:MC:=.r0 X2h
def X2i:MC:=.seq Ytx (.seq Yty (.seq Ytz .ret))
attribute [go_sem] X2f X2g X2h
theorem Y83 : KK QP 145 f145 [1] X2i [(RV.t 2)] 17 := by refine ⟨func145,?_,?_,?_,?_⟩<;>kernel_rfl
theorem Yt0 : Xaa QP 145 = true := by kernel_rfl
theorem Yt1 (h : GI QP gp [(RV.t 2)] res 17 X2i args) : Does QP gp 145 args res := Y83.i Yt0 h
def X2j:List MO:=[Qa (Qv 2) (Qd (Qo (Qp (Qq (Qs false)))))]
def Yt2:MC:=.r0 X2j
def X2k:List MO:=[Qa (Qv 7) (Qd (Qn 0)),Qa (Qv 8) (MOp.rng (Qn 7))]
def Yt3:MC:=.r0 X2k
def X2l:List MO:=[Qa (Qv 9) (MOp.nxt (Qn 8)),Qa (Qv 10) (Qi (Qn 9) 0)]
def Yt4:MC:=.r0 X2l
def X2m:List MO:=[Qa (Qv 11) (Qi (Qn 9) 1),Qa (Qv 12) (Qi (Qn 9) 2),Qa (Qv 3) (Qd (Qn 11)),Qa (Qv 4) (Qd (Qn 12))]
def Yt5:MC:=.r0 X2m
def X2n:List MO:=[Qa (Qv 14) (Qd (Qn 0)),Qa (Qv 15) (Qd (Qn 3)),Qa (Qv 16) (MOp.slcS (Qn 14) (Qv (Qn 15)) none),Qa (Qv 17) (Qh 161 [(Qn 16)]),Qa (Qv 13) (Qd (Qn 17)),Qa (Qv 18) (Qi (Qn 13) 0),Qa (Qv 19) (Qi (Qn 13) 1),Qa (Qv 5) (Qd (Qn 18)),Qa (Qv 6) (Qd (Qn 19))]
def Yt6:MC:=.r0 X2n
def X2o:List MO:=[Qa (Qv 20) (Qd (Qn 4)),Qa (Qv 21) (Qe Qt Go.BinOp.eql (Qn 20) (Qo (Qp (Qq (Qr Go.IntKind.i32 65533))))),Qa (Qv 22) (Qd (Qn 21)),Qb 22 true (Qv 23),Qa (Qv 23) (Qd (Qn 6)),Qb 22 true (Qv 24),Qa (Qv 24) (Qe Qt Go.BinOp.eql (Qn 23) (Qo (Qp (Qq (Qr Qu 1))))),Qa (Qv 25) (Qm (Qn 22) (Qn 24) (Qo (Qp (Qq (Qs false)))))]
def Yt7:MC:=.r0 X2o
def X2p:List MO:=[Qa (Qv 2) (Qd (Qo (Qp (Qq (Qs false)))))]
def Yt8:MC:=.r0 X2p
def Yer:MC:=.seq Yt5 (.seq Yt6 (.seq Yt7 (.cond (Qn 25) (.seq Yt8 .ret) .skip)))
def Xt2:List MO:=[Qa (Qv 2) (Qd (Qo (Qp (Qq (Qs true)))))]
def Yes:MC:=.r0 Xt2
def Yet:MC:=.seq (.seq Yt3 (.blk 0 (.loop (.seq Yt4 (.seq (.cond (Qn 10) .skip (MC.exit 0)) (.blk 1 Yer)))))) (.seq Yes .ret)
def Xt3:MC:=.seq Yt2 Yet
attribute [go_sem] X2j X2k X2l X2m X2n X2o X2p Xt2
theorem Y84 : KK QP 147 f147 [] Xt3 [(RV.t 2)] 26 := by refine ⟨func147,?_,?_,?_,?_⟩<;>kernel_rfl
theorem Yt9 : Xaa QP 147 = true := by kernel_rfl
theorem Yua (h : GI QP gp [(RV.t 2)] res 26 Xt3 args) : Does QP gp 147 args res := Y84.i Yt9 h
def X2q:List MO:=[Qa (Qv 4) (Qd (Qo (Qp (Qq (Qs false)))))]
def Yub:MC:=.r0 X2q
def X2r:List MO:=[Qa (Qv 5) (Qd (Qn 0)),Qa (Qv 6) (Qd (Qn 1)),Qa (Qv 7) (Qh 173 [(Qn 5),(Qn 6)]),Qa (Qv 8) (Qe Qt Go.BinOp.geq (Qn 7) (Qo (Qp (Qq (Qr Qu 0))))),Qa (Qv 4) (Qd (Qn 8))]
def Yuc:MC:=.r0 X2r
def X2s:MC:=.seq Yub (.seq Yuc .ret)
attribute [go_sem] X2q X2r
theorem Y85 : KK QP 154 f154 [] X2s [(RV.t 4)] 9 := by refine ⟨func154,?_,?_,?_,?_⟩<;>kernel_rfl
theorem Yud : Xaa QP 154 = true := by kernel_rfl
theorem Yue (h : GI QP gp [(RV.t 4)] res 9 X2s args) : Does QP gp 154 args res := Y85.i Yud h
def X2t:List MO:=[Qa (Qv 3) (Qd (Qo (Qp (Qq (Qs false)))))]
def Yuf:MC:=.r0 X2t
def X2u:List MO:=[Qa (Qv 4) (Qd (Qn 0)),Qa (Qv 5) (Qe Qt Go.BinOp.lss (Qn 4) (Qo (Qp (Qq (Qr Qu 0))))),Qa (Qv 6) (Qd (Qn 5)),Qb 6 false (Qv 7),Qa (Qv 7) (Qd (Qn 0)),Qb 6 false (Qv 8),Qa (Qv 8) (Qg 6 (Qn 1)),Qb 6 false (Qv 9),Qa (Qv 9) (Qf 1 false (Qn 8)),Qb 6 false (Qv 10),Qa (Qv 10) (Qe Qt Go.BinOp.geq (Qn 7) (Qn 9)),Qa (Qv 11) (Qm (Qn 6) (Qo (Qp (Qq (Qs true)))) (Qn 10)),Qa (Qv 3) (Qd (Qn 11))]
def Yug:MC:=.r0 X2u
def X2v:MC:=.seq Yuf (.seq Yug .ret)
attribute [go_sem] X2t X2u
theorem Y86 : KK QP 155 f155 [] X2v [(RV.t 3)] 12 := by refine ⟨func155,?_,?_,?_,?_⟩<;>kernel_rfl
theorem Yuh : Xaa QP 155 = true := by kernel_rfl
theorem Yui (h : GI QP gp [(RV.t 3)] res 12 X2v args) : Does QP gp 155 args res := Y86.i Yuh h
def X2w:List MO:=[Qa (Qv 4) (Qd (Qo (Qp (Qq (Qs false)))))]
def Yuj:MC:=.r0 X2w
def X2x:List MO:=[Qa (Qv 5) (Qd (Qn 0)),Qa (Qv 6) (Qd (Qn 1)),Qa (Qv 7) (Qh 174 [(Qn 5),(Qn 6)]),Qa (Qv 8) (Qe Qt Go.BinOp.geq (Qn 7) (Qo (Qp (Qq (Qr Qu 0))))),Qa (Qv 4) (Qd (Qn 8))]
def Yuk:MC:=.r0 X2x
def X2y:MC:=.seq Yuj (.seq Yuk .ret)
attribute [go_sem] X2w X2x
theorem Y87 : KK QP 156 f156 [] X2y [(RV.t 4)] 9 := by refine ⟨func156,?_,?_,?_,?_⟩<;>kernel_rfl
theorem Yul : Xaa QP 156 = true := by kernel_rfl
theorem Yum (h : GI QP gp [(RV.t 4)] res 9 X2y args) : Does QP gp 156 args res := Y87.i Yul h
def X2z:List MO:=[Qa (Qv 1) (MOp.ibox (Qn 0)),Qa (Qv 2) (Qd (Qo (Qp (Qq (Qs false)))))]
def Yun:MC:=.r0 X2z
def X20:List MO:=[Qa (Qv 3) (Qf 3 true (Qn 1)),Qa (Qv 4) (Qh 127 [(Qn 3)]),Qa (Qv 5) (MOp.not (Qn 4)),Qa (Qv 2) (Qd (Qn 5))]
def Yuo:MC:=.r0 X20
def X21:MC:=.seq Yun (.seq Yuo .ret)
attribute [go_sem] X2z X20
theorem Y88 : KK QP 157 f157 [1] X21 [(RV.t 2)] 6 := by refine ⟨func157,?_,?_,?_,?_⟩<;>kernel_rfl
theorem Yup : Xaa QP 157 = true := by kernel_rfl
theorem Yuq (h : GI QP gp [(RV.t 2)] res 6 X21 args) : Does QP gp 157 args res := Y88.i Yup h
def X22:List MO:=[Qa (Qv 4) (Qd (Qo (Qp (Qq (Qs false)))))]
def Yur:MC:=.r0 X22
def X23:List MO:=[Qa (Qv 5) (Qd (Qn 0)),Qa (Qv 6) (Qd (Qn 1)),Qa (Qv 7) (Qh 175 [(Qn 5),(Qn 6)]),Qa (Qv 8) (Qe Qt Go.BinOp.geq (Qn 7) (Qo (Qp (Qq (Qr Qu 0))))),Qa (Qv 4) (Qd (Qn 8))]
def Yus:MC:=.r0 X23
def X24:MC:=.seq Yur (.seq Yus .ret)
attribute [go_sem] X22 X23
theorem Y89 : KK QP 158 f158 [] X24 [(RV.t 4)] 9 := by refine ⟨func158,?_,?_,?_,?_⟩<;>kernel_rfl
theorem Yut : Xaa QP 158 = true := by kernel_rfl
theorem Yuu (h : GI QP gp [(RV.t 4)] res 9 X24 args) : Does QP gp 158 args res := Y89.i Yut h
def X25:List MO:=[Qa (Qv 2) (Qd (Qo (Qp (Qq (Qs false)))))]
def Yuv:MC:=.r0 X25
def X26:List MO:=[Qa (Qv 3) (MOp.alloc [(Qr Qu 0)]),Qa none (Ql 1 (Qn 3) (Qo (Qp (Qq (Qr Qu 0)))))]
def Yuw:MC:=.r0 X26
def X27:List MO:=[Qa (Qv 4) (Qd (Qn 0)),Qa (Qv 5) (Qh 176 [(Qn 4)])]
def Yux:MC:=.r0 X27
def X28:List MO:=[Qa (Qv 7) (Qf 1 false (Qn 3)),Qa (Qv 8) (Qe Qt Go.BinOp.add (Qn 7) (Qo (Qp (Qq (Qr Qu 1))))),Qa none (Ql 1 (Qn 3) (Qn 8))]
def Yuy:MC:=.r0 X28
def Yuz:MC:=.rf (Qn 5) [6] .skip (.blk 1 Yuy)
def X29:List MO:=[Qa (Qv 9) (Qf 1 false (Qn 3)),Qa (Qv 10) (Qd (Qn 0)),Qa (Qv 11) (Qk Qt (Qn 10)),Qa (Qv 12) (Qe Qt Go.BinOp.lss (Qn 9) (Qn 11)),Qa (Qv 2) (Qd (Qn 12))]
def Yu0:MC:=.r0 X29
def Yeu:MC:=.seq Yuw (.seq (.seq Yux (.blk 0 Yuz)) (.seq Yu0 .ret))
def Xt4:MC:=.seq Yuv Yeu
attribute [go_sem] X25 X26 X27 X28 X29
theorem Y9a : KK QP 159 f159 [] Xt4 [(RV.t 2)] 13 := by refine ⟨func159,?_,?_,?_,?_⟩<;>kernel_rfl
theorem Yu1 : Xaa QP 159 = true := by kernel_rfl
theorem Yu2 (h : GI QP gp [(RV.t 2)] res 13 Xt4 args) : Does QP gp 159 args res := Y9a.i Yu1 h
def X3a:List MO:=[Qa (Qv 4) (Qd (Qo (Qp (Qq (Qr Qu 0)))))]
def Yu3:MC:=.r0 X3a
def X3b:List MO:=[Qa (Qv 6) (Qd (Qn 0)),Qa (Qv 7) (Qk Qt (Qn 6)),Qa (Qv 8) (Qd (Qo (Qp (Qq (Qr Qu 0)))))]
def Yu4:MC:=.r0 X3b
def X3c:List MO:=[Qa (Qv 9) (Qe Qt Go.BinOp.lss (Qn 8) (Qn 7))]
def Yu5:MC:=.r0 X3c
def X3d:List MO:=[Qa (Qv 10) (Qd (Qn 8)),Qa (Qv 5) (Qd (Qn 10))]
def Yu6:MC:=.r0 X3d
def X3e:List MO:=[Qa (Qv 11) (Qd (Qn 1)),Qa (Qv 12) (Qd (Qn 0)),Qa (Qv 13) (Qd (Qn 5)),Qa (Qv 14) (Qj 1 (Qn 12) (Qn 13)),Qa (Qv 15) (Qf 1 false (Qn 14)),Qa (Qv 16) (Qe Leaf.b Go.BinOp.eql (Qn 11) (Qn 15))]
def Yu7:MC:=.r0 X3e
def X3f:List MO:=[Qa (Qv 17) (Qd (Qn 5)),Qa (Qv 4) (Qd (Qn 17))]
def Yu8:MC:=.r0 X3f
def Xt5:List MO:=[Qa (Qv 18) (Qe Qt Go.BinOp.add (Qn 8) (Qo (Qp (Qq (Qr Qu 1))))),Qa (Qv 8) (Qd (Qn 18))]
def Yev:MC:=.r0 Xt5
def Yew:MC:=.seq (.blk 1 (.seq Yu6 (.seq Yu7 (.cond (Qn 16) (.seq Yu8 .ret) .skip)))) Yev
def Xt6:List MO:=[Qa (Qv 4) (Qd (Qo (Qp (Qq (Qr Qu (-1))))))]
def Yex:MC:=.r0 Xt6
def Yey:MC:=.seq (.seq Yu4 (.blk 0 (.loop (.seq Yu5 (.seq (.cond (Qn 9) .skip (MC.exit 0)) Yew))))) (.seq Yex .ret)
def Xt7:MC:=.seq Yu3 Yey
attribute [go_sem] X3a X3b X3c X3d X3e X3f Xt5 Xt6
theorem Y9b : KK QP 173 f173 [] Xt7 [(RV.t 4)] 19 := by refine ⟨func173,?_,?_,?_,?_⟩<;>kernel_rfl
theorem Yu9 : Xaa QP 173 = true := by kernel_rfl
theorem Yva (h : GI QP gp [(RV.t 4)] res 19 Xt7 args) : Does QP gp 173 args res := Y9b.i Yu9 h
def X3g:List MO:=[Qa (Qv 4) (Qd (Qo (Qp (Qq (Qr Qu 0)))))]
def Yvb:MC:=.r0 X3g
def X3h:List MO:=[Qa (Qv 6) (Qd (Qn 0)),Qa (Qv 7) (Qk Qt (Qn 6)),Qa (Qv 8) (Qd (Qo (Qp (Qq (Qr Qu 0)))))]
def Yvc:MC:=.r0 X3h
def X3i:List MO:=[Qa (Qv 9) (Qe Qt Go.BinOp.lss (Qn 8) (Qn 7))]
def Yvd:MC:=.r0 X3i
def X3j:List MO:=[Qa (Qv 10) (Qd (Qn 8)),Qa (Qv 5) (Qd (Qn 10))]
def Yve:MC:=.r0 X3j
def X3k:List MO:=[Qa (Qv 11) (Qd (Qn 1)),Qa (Qv 12) (Qd (Qn 0)),Qa (Qv 13) (Qd (Qn 5)),Qa (Qv 14) (Qj 1 (Qn 12) (Qn 13)),Qa (Qv 15) (Qf 1 false (Qn 14)),Qa (Qv 16) (MOp.callv (Qn 11) [(Qn 15)])]
def Yvf:MC:=.r0 X3k
def X3l:List MO:=[Qa (Qv 17) (Qd (Qn 5)),Qa (Qv 4) (Qd (Qn 17))]
def Yvg:MC:=.r0 X3l
def Xt8:List MO:=[Qa (Qv 18) (Qe Qt Go.BinOp.add (Qn 8) (Qo (Qp (Qq (Qr Qu 1))))),Qa (Qv 8) (Qd (Qn 18))]
def Yez:MC:=.r0 Xt8
def Ye0:MC:=.seq (.blk 1 (.seq Yve (.seq Yvf (.cond (Qn 16) (.seq Yvg .ret) .skip)))) Yez
def Xt9:List MO:=[Qa (Qv 4) (Qd (Qo (Qp (Qq (Qr Qu (-1))))))]
def Ye1:MC:=.r0 Xt9
def Ye2:MC:=.seq (.seq Yvc (.blk 0 (.loop (.seq Yvd (.seq (.cond (Qn 9) .skip (MC.exit 0)) Ye0))))) (.seq Ye1 .ret)
def Xua:MC:=.seq Yvb Ye2
attribute [go_sem] X3g X3h X3i X3j X3k X3l Xt8 Xt9
theorem Y9c : KK QP 174 f174 [] Xua [(RV.t 4)] 19 := by refine ⟨func174,?_,?_,?_,?_⟩<;>kernel_rfl
theorem Yvh : Xaa QP 174 = true := by kernel_rfl
theorem Yvi (h : GI QP gp [(RV.t 4)] res 19 Xua args) : Does QP gp 174 args res := Y9c.i Yvh h
def X3m:List MO:=[Qa (Qv 4) (Qd (Qo (Qp (Qq (Qr Qu 0)))))]
def Yvj:MC:=.r0 X3m
def X3n:List MO:=[Qa (Qv 6) (Qd (Qn 0)),Qa (Qv 7) (Qk Qt (Qn 6)),Qa (Qv 8) (Qd (Qo (Qp (Qq (Qr Qu 0)))))]
def Yvk:MC:=.r0 X3n
def X3o:List MO:=[Qa (Qv 9) (Qe Qt Go.BinOp.lss (Qn 8) (Qn 7))]
def Yvl:MC:=.r0 X3o
def X3p:List MO:=[Qa (Qv 10) (Qd (Qn 8)),Qa (Qv 5) (Qd (Qn 10))]
def Yvm:MC:=.r0 X3p
def X3q:List MO:=[Qa (Qv 11) (Qd (Qn 1)),Qa (Qv 12) (Qd (Qn 0)),Qa (Qv 13) (Qd (Qn 5)),Qa (Qv 14) (Qj 3 (Qn 12) (Qn 13)),Qa (Qv 15) (Qf 3 true (Qn 14)),Qa (Qv 16) (MOp.callv (Qn 11) [(Qn 15)])]
def Yvn:MC:=.r0 X3q
def X3r:List MO:=[Qa (Qv 17) (Qd (Qn 5)),Qa (Qv 4) (Qd (Qn 17))]
def Yvo:MC:=.r0 X3r
def Xub:List MO:=[Qa (Qv 18) (Qe Qt Go.BinOp.add (Qn 8) (Qo (Qp (Qq (Qr Qu 1))))),Qa (Qv 8) (Qd (Qn 18))]
def Ye3:MC:=.r0 Xub
def Ye4:MC:=.seq (.blk 1 (.seq Yvm (.seq Yvn (.cond (Qn 16) (.seq Yvo .ret) .skip)))) Ye3
def Xuc:List MO:=[Qa (Qv 4) (Qd (Qo (Qp (Qq (Qr Qu (-1))))))]
def Ye5:MC:=.r0 Xuc
def Ye6:MC:=.seq (.seq Yvk (.blk 0 (.loop (.seq Yvl (.seq (.cond (Qn 9) .skip (MC.exit 0)) Ye4))))) (.seq Ye5 .ret)
def Xud:MC:=.seq Yvj Ye6
attribute [go_sem] X3m X3n X3o X3p X3q X3r Xub Xuc
theorem Y9d : KK QP 175 f175 [] Xud [(RV.t 4)] 19 := by refine ⟨func175,?_,?_,?_,?_⟩<;>kernel_rfl
theorem Yvp : Xaa QP 175 = true := by kernel_rfl
theorem Yvq (h : GI QP gp [(RV.t 4)] res 19 Xud args) : Does QP gp 175 args res := Y9d.i Yvp h
def X3s:List MO:=[Qa (Qv 1) (MOp.ibox (Qn 0)),Qa (Qv 2) (Qd (Qo (Qp (Qq D.nilF))))]
def Yvr:MC:=.r0 X3s
def X3t:List MO:=[Qa (Qv 3) (MOp.mkF (Go.Fn.func 186) [(Qn 1)]),Qa (Qv 2) (Qd (Qn 3))]
def Yvs:MC:=.r0 X3t
def X3u:MC:=.seq Yvr (.seq Yvs .ret)
attribute [go_sem] X3s X3t
theorem Y9e : KK QP 176 f176 [1] X3u [(RV.t 2)] 4 := by refine ⟨func176,?_,?_,?_,?_⟩<;>kernel_rfl
theorem Yvt : Xaa QP 176 = true := by kernel_rfl
theorem Yvu (h : GI QP gp [(RV.t 2)] res 4 X3u args) : Does QP gp 176 args res := Y9e.i Yvt h
def X3v:List MO:=[Qa (Qv 6) MOp.mkM,Qa (Qv 3) (Qd (Qn 6))]
def Yvv:MC:=.r0 X3v
def X3w:List MO:=[Qa (Qv 7) (Qf 1 false (Qn 1)),Qa (Qv 8) (Qk Qt (Qn 7)),Qa (Qv 9) (Qd (Qo (Qp (Qq (Qr Qu 0)))))]
def Yvw:MC:=.r0 X3w
def X3x:List MO:=[Qa (Qv 10) (Qe Qt Go.BinOp.lss (Qn 9) (Qn 8))]
def Yvx:MC:=.r0 X3x
def X3y:List MO:=[Qa (Qv 11) (Qj 3 (Qn 7) (Qn 9)),Qa (Qv 12) (Qf 3 true (Qn 11)),Qa (Qv 5) (MOp.alloc [(Qr Qu 0),(Qr Qu 0),(D.str (ByteArray.mk #[]))]),Qa none (Ql 3 (Qn 5) (Qn 12))]
def Yvy:MC:=.r0 X3y
def X3z:List MO:=[Qa (Qv 13) (Qd (Qn 3)),Qa (Qv 14) (Qf 3 true (Qn 5)),Qa (Qv 15) (MOp.lkp false (Qp (Qq (Qs false))) true [Qt,Qt,Leaf.s] (Qn 13) (Qn 14)),Qa (Qv 16) (Qd (Qn 15)),Qb 16 false (Qv 17),Qa (Qv 17) (Qd (Qn 0)),Qb 16 false (Qv 18),Qa (Qv 18) (Qf 3 true (Qn 5)),Qb 16 false (Qv 19),Qa (Qv 19) (MOp.callv (Qn 17) [(Qn 18)]),Qb 16 false (Qv 20),Qa (Qv 20) (MOp.not (Qn 19)),Qa (Qv 21) (Qm (Qn 16) (Qo (Qp (Qq (Qs true)))) (Qn 20))]
def Yvz:MC:=.r0 X3z
def Xue:List MO:=[Qa (Qv 22) (Qd (Qn 3)),Qa (Qv 23) (Qf 3 true (Qn 5)),Qa none (MOp.mupd true [Qt,Qt,Leaf.s] (Qn 22) (Qn 23) (Qo (Qp (Qq (Qs true)))))]
def Ye7:MC:=.r0 Xue
def Xuf:List MO:=[Qa (Qv 24) (Qe Qt Go.BinOp.add (Qn 9) (Qo (Qp (Qq (Qr Qu 1))))),Qa (Qv 9) (Qd (Qn 24))]
def Ye8:MC:=.r0 Xuf
def Ye9:MC:=.seq (.blk 1 (.seq Yvy (.seq (.seq Yvz (.cond (Qn 21) (MC.exit 0) .skip)) Ye7))) Ye8
def Yfa:MC:=.seq Yvv (.seq .skip (.seq Yvw (.blk 0 (.loop (.seq Yvx (.seq (.cond (Qn 10) .skip (MC.exit 0)) Ye9))))))
def Xug:MC:=.scope Yfa
attribute [go_sem] X3v X3w X3x X3y X3z Xue Xuf
theorem Y9f : KK QP 186 f186 [] Xug [] 25 := by refine ⟨func186,?_,?_,?_,?_⟩<;>kernel_rfl
theorem Yv0 : Xaa QP 186 = true := by kernel_rfl
theorem Yfb (h : GT QP gp [] pre R 25 Xug args) : Tri QP gp 186 args pre R := Y9f.t h
end Go.Fw.L07
