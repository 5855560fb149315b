/- Small codes. -/
import Derived.Test.YtejnfjophhnaeaaGreatDoorFd
import Derived.Test.YtejnfjophhnaeaaGreatDoorProg
set_option linter.all false
namespace Go.Fw.L07
open Go Go.Fw
open Go.Proofs.Tryz renaming prog -> QP
open Go.Proofs.Tryz (f105 f106 f107 f108 f121 f122 f123 f124 f127 f134 f136 f137 f143 f144 f145 f147 f154 f155 f156 f157 f158 f159 f173 f174 f175 f176 f186 f20 f21 f35 f36 f44 f49 f50 f64 f68 f69 f70 f78 f79 f80 f81 f82 f94 f95 f96 func105 func106 func107 func108 func121 func122 func123 func124 func127 func134 func136 func137 func143 func144 func145 func147 func154 func155 func156 func157 func158 func159 func173 func174 func175 func176 func186 func20 func21 func35 func36 func44 func49 func50 func64 func68 func69 func70 func78 func79 func80 func81 func82 func94 func95 func96)
open Go.Fw.MO renaming op -> Qa,chk -> Qb,opx -> Qc
open Go.Fw.MOp renaming mv -> Qd,bin -> Qe,load -> Qf,fad -> Qg,call -> Qh,ext -> Qi,iad -> Qj,len -> Qk,store -> Ql,pick -> Qm
open Go.Fw.Opd renaming t -> Qn,c -> Qo
open Go.Fw.V renaming one -> Qp
open Go.Fw.A renaming d -> Qq
open Go.Fw.D renaming int -> Qr,bool -> Qs
open Go.Fw.Leaf renaming i -> Qt
open Go.IntKind renaming i64 -> Qu
open Option renaming some -> Qv
variable {gp : Heap} {args : List V} {res : V} {pre : List Ch} {R : V -> List Ch -> Prop}
def f20_r0:List MO:=[Qa (Qv 4) (Qd (Qo (Qp (Qq (Qs false)))))]
def f20_c0:MC:=.r0 f20_r0
def f20_r1:List MO:=[Qa (Qv 6) (Qd (Qn 0)),Qa (Qv 7) (Qk Qt (Qn 6)),Qa (Qv 8) (Qd (Qn 1)),Qa (Qv 9) (Qk Qt (Qn 8)),Qa (Qv 10) (Qe Qt Go.BinOp.neq (Qn 7) (Qn 9))]
def f20_c1:MC:=.r0 f20_r1
def f20_r2:List MO:=[Qa (Qv 4) (Qd (Qo (Qp (Qq (Qs false)))))]
def f20_c2:MC:=.r0 f20_r2
def f20_r8:List MO:=[Qa (Qv 5) (Qd (Qo (Qp (Qq (Qr Qu 0)))))]
def f20_c8:MC:=.r0 f20_r8
def f20_r9:List MO:=[Qa (Qv 11) (Qd (Qn 5)),Qa (Qv 12) (Qd (Qn 0)),Qa (Qv 13) (Qk Qt (Qn 12)),Qa (Qv 14) (Qe Qt Go.BinOp.lss (Qn 11) (Qn 13))]
def f20_c9:MC:=.r0 f20_r9
def f20_r14:List MO:=[Qa (Qv 17) (Qd (Qn 0)),Qa (Qv 18) (Qd (Qn 5)),Qa (Qv 19) (Qj 1 (Qn 17) (Qn 18)),Qa (Qv 20) (Qf 1 false (Qn 19)),Qa (Qv 21) (Qd (Qn 1)),Qa (Qv 22) (Qd (Qn 5)),Qa (Qv 23) (Qj 1 (Qn 21) (Qn 22)),Qa (Qv 24) (Qf 1 false (Qn 23)),Qa (Qv 25) (Qe Qt Go.BinOp.neq (Qn 20) (Qn 24))]
def f20_c14:MC:=.reg true f20_r14
def f20_r15:List MO:=[Qa (Qv 4) (Qd (Qo (Qp (Qq (Qs false)))))]
def f20_c15:MC:=.r0 f20_r15
def f20_r22:List MO:=[Qa (Qv 15) (Qd (Qn 5)),Qa (Qv 16) (Qe Qt Go.BinOp.add (Qn 15) (Qo (Qp (Qq (Qr Qu 1))))),Qa (Qv 5) (Qd (Qn 16))]
def f20_c22:MC:=.r0 f20_r22
def f20_c24:MC:=.seq (.seq f20_c9 (.cond (Qn 14) .skip (MC.exit 0))) (.seq (.blk 1 (.seq f20_c14 (.cond (Qn 25) (.seq f20_c15 .ret) .skip))) f20_c22)
def f20_r28:List MO:=[Qa (Qv 4) (Qd (Qo (Qp (Qq (Qs true)))))]
def f20_c28:MC:=.r0 f20_r28
def f20_c32:MC:=.seq (.seq f20_c1 (.cond (Qn 10) (.seq f20_c2 .ret) .skip)) (.seq (.seq f20_c8 (.blk 0 (.loop f20_c24))) (.seq f20_c28 .ret))
def f20_c33:MC:=.seq f20_c0 f20_c32
attribute [go_sem] f20_r0 f20_r1 f20_r2 f20_r8 f20_r9 f20_r14 f20_r15 f20_r22 f20_r28
theorem f20_k : KK QP 20 f20 [] f20_c33 [(RV.t 4)] 26 := by refine ⟨func20,?_,?_,?_,?_⟩<;>kernel_rfl
theorem f20_ok : callable QP 20 = true := by kernel_rfl
theorem f20_in (h : GI QP gp [(RV.t 4)] res 26 f20_c33 args) : Does QP gp 20 args res := f20_k.i f20_ok h
def f21_r0:List MO:=[Qa (Qv 2) (MOp.ibox (Qn 0)),Qa (Qv 4) (Qd (Qo (Qp A.nil))),Qa (Qv 5) (Qd (Qo (Qp (Qq (Qr Qu 0)))))]
def f21_c0:MC:=.r0 f21_r0
def f21_r1:List MO:=[Qa (Qv 12) (Qf 2 true (Qn 2)),Qa (Qv 13) (Qd (Qn 1)),Qa (Qv 14) (Qh 49 [(Qn 12),(Qn 13)]),Qa (Qv 11) (Qd (Qn 14)),Qa (Qv 15) (Qi (Qn 11) 0),Qa (Qv 16) (Qi (Qn 11) 1),Qa (Qv 6) (MOp.alloc [(Qr Qu 0),(Qr Qu 0),(Qr Qu 0),(D.str (ByteArray.mk #[])),(D.sl []),(D.sl []),(Qr Qu 0)]),Qa none (Ql 7 (Qn 6) (Qn 15)),Qa (Qv 7) (Qd (Qn 16))]
def f21_c1:MC:=.r0 f21_r1
def f21_r2:List MO:=[Qa (Qv 17) (Qd (Qn 7)),Qa (Qv 18) (Qe Qt Go.BinOp.eql (Qn 17) (Qo (Qp (Qq (Qr Qu 0))))),Qa (Qv 19) (Qd (Qn 18)),Qb 19 true (Qv 20),Qa (Qv 20) (Qg 0 (Qn 6)),Qb 19 true (Qv 21),Qa (Qv 21) (Qg 0 (Qn 20)),Qb 19 true (Qv 22),Qa (Qv 22) (Qf 1 false (Qn 21)),Qb 19 true (Qv 23),Qa (Qv 23) (Qe Qt Go.BinOp.eql (Qn 22) (Qo (Qp (Qq (Qr Qu 1))))),Qa (Qv 24) (Qm (Qn 19) (Qn 23) (Qo (Qp (Qq (Qs false)))))]
def f21_c2:MC:=.r0 f21_r2
def f21_r3:List MO:=[Qa (Qv 25) (Qg 0 (Qn 6)),Qa (Qv 26) (Qg 5 (Qn 25)),Qa (Qv 27) (Qf 1 false (Qn 26)),Qa (Qv 28) (Qh 44 [(Qn 27)]),Qa (Qv 29) (Qd (Qn 7)),Qa (Qv 4) (Qd (Qn 28)),Qa (Qv 5) (Qd (Qn 29))]
def f21_c3:MC:=.r0 f21_r3
def f21_r9:List MO:=[Qa (Qv 8) (Qd (Qo (Qp A.nil)))]
def f21_c9:MC:=.r0 f21_r9
def f21_r10:List MO:=[Qa (Qv 30) (Qf 7 true (Qn 6)),Qa (Qv 31) (Qh 50 [(Qn 30)]),Qa (Qv 32) (Qk Qt (Qn 31)),Qa (Qv 33) (Qd (Qo (Qp (Qq (Qr Qu 0)))))]
def f21_c10:MC:=.r0 f21_r10
def f21_r11:List MO:=[Qa (Qv 34) (Qe Qt Go.BinOp.lss (Qn 33) (Qn 32))]
def f21_c11:MC:=.r0 f21_r11
def f21_r15:List MO:=[Qa (Qv 35) (Qj 4 (Qn 31) (Qn 33)),Qa (Qv 36) (Qf 4 true (Qn 35)),Qa (Qv 10) (MOp.alloc [(Qr Qu 0),(Qr Qu 0),(D.str (ByteArray.mk #[])),(Qr Qu 0)]),Qa none (Ql 4 (Qn 10) (Qn 36))]
def f21_c15:MC:=.r0 f21_r15
def f21_r16:List MO:=[Qa (Qv 37) (Qd (Qn 8)),Qa (Qv 38) (Qg 3 (Qn 10)),Qa (Qv 39) (Qf 1 false (Qn 38)),Qa (Qv 40) (MOp.bslice 1 [(Qr Qu 0)] 1 [(0,(Qn 39))]),Qa (Qv 41) (MOp.app 3 1 8 (Qn 37) (Qn 40)),Qa (Qv 8) (Qd (Qn 41))]
def f21_c16:MC:=.r0 f21_r16
def f21_r19:List MO:=[Qa (Qv 42) (Qe Qt Go.BinOp.add (Qn 33) (Qo (Qp (Qq (Qr Qu 1))))),Qa (Qv 33) (Qd (Qn 42))]
def f21_c19:MC:=.r0 f21_r19
def f21_c22:MC:=.seq f21_c11 (.seq (.cond (Qn 34) .skip (MC.exit 0)) (.seq (.blk 1 (.seq f21_c15 f21_c16)) f21_c19))
def f21_r26:List MO:=[Qa (Qv 43) (Qd (Qn 8)),Qa (Qv 44) (Qd (Qn 7)),Qa (Qv 4) (Qd (Qn 43)),Qa (Qv 5) (Qd (Qn 44))]
def f21_c26:MC:=.r0 f21_r26
def f21_c30:MC:=.seq f21_c9 (.seq (.seq f21_c10 (.blk 0 (.loop f21_c22))) (.seq f21_c26 .ret))
def f21_c32:MC:=.seq f21_c1 (.seq (.seq f21_c2 (.cond (Qn 24) (.seq f21_c3 .ret) .skip)) f21_c30)
def f21_c33:MC:=.seq f21_c0 f21_c32
theorem f21_k : KK QP 21 f21 [2] f21_c33 [(RV.t 4),(RV.t 5)] 45 := by refine ⟨func21,?_,?_,?_,?_⟩<;>kernel_rfl
theorem f21_ok : callable QP 21 = true := by kernel_rfl
theorem f21_in (h : GI QP gp [(RV.t 4),(RV.t 5)] res 45 f21_c33 args) : Does QP gp 21 args res := f21_k.i f21_ok h
theorem f21_tri (h : GT QP gp [(RV.t 4),(RV.t 5)] pre R 45 f21_c33 args) : Tri QP gp 21 args pre R := f21_k.t h
def f35_r0:List MO:=[Qa (Qv 1) (MOp.ibox (Qn 0)),Qa (Qv 2) (MOp.alloc [(Qr Qu 0),(D.sl [])])]
def f35_c0:MC:=.r0 f35_r0
def f35_r1:List MO:=[Qa (Qv 9) (Qg 0 (Qn 1)),Qa (Qv 10) (Qf 1 false (Qn 9)),Qa (Qv 11) (MOp.build [(Qr Qu 0),(D.sl [])] [(0,(1,(Qn 10)))]),Qa (Qv 3) (MOp.alloc [(Qr Qu 0),(D.sl [])]),Qa none (Ql 2 (Qn 3) (Qn 11))]
def f35_c1:MC:=.r0 f35_r1
def f35_r2:List MO:=[Qa (Qv 4) (Qd (Qo (Qp (Qq (Qr Qu 0)))))]
def f35_c2:MC:=.r0 f35_r2
def f35_r3:List MO:=[Qa (Qv 12) (Qd (Qn 4)),Qa (Qv 13) (Qg 1 (Qn 1)),Qa (Qv 14) (Qf 1 false (Qn 13)),Qa (Qv 15) (Qk Qt (Qn 14)),Qa (Qv 16) (Qe Qt Go.BinOp.lss (Qn 12) (Qn 15)),Qa (Qv 17) (Qd (Qn 16)),Qb 17 true (Qv 18),Qa (Qv 18) (Qd (Qn 4)),Qb 17 true (Qv 19),Qa (Qv 19) (Qe Qt Go.BinOp.lss (Qn 18) (Qo (Qp (Qq (Qr Qu 201))))),Qa (Qv 20) (Qm (Qn 17) (Qn 19) (Qo (Qp (Qq (Qs false)))))]
def f35_c3:MC:=.r0 f35_r3
def f35_r8:List MO:=[Qa (Qv 23) (Qg 1 (Qn 1)),Qa (Qv 24) (Qf 1 false (Qn 23)),Qa (Qv 25) (Qd (Qn 4)),Qa (Qv 26) (Qj 6 (Qn 24) (Qn 25)),Qa (Qv 27) (Qf 6 true (Qn 26)),Qa (Qv 5) (MOp.alloc [(Qr Qu 0),(Qr Qu 0),(Qr Qu 0),(D.str (ByteArray.mk #[])),(D.sl []),(D.sl [])]),Qa none (Ql 6 (Qn 5) (Qn 27))]
def f35_c8:MC:=.r0 f35_r8
def f35_r9:List MO:=[Qa (Qv 28) (Qg 0 (Qn 5)),Qa (Qv 29) (Qf 1 false (Qn 28)),Qa (Qv 30) (Qg 1 (Qn 5)),Qa (Qv 31) (Qf 3 true (Qn 30)),Qa (Qv 32) (Qh 68 [(Qn 31)]),Qa (Qv 33) (MOp.build [(Qr Qu 0),(Qr Qu 0),(Qr Qu 0),(D.str (ByteArray.mk #[])),(D.sl []),(D.sl [])] [(0,(1,(Qn 29))),(1,(3,(Qn 32)))]),Qa (Qv 6) (MOp.alloc [(Qr Qu 0),(Qr Qu 0),(Qr Qu 0),(D.str (ByteArray.mk #[])),(D.sl []),(D.sl [])]),Qa none (Ql 6 (Qn 6) (Qn 33))]
def f35_c9:MC:=.reg true f35_r9
def f35_r10:List MO:=[Qa (Qv 7) (Qd (Qo (Qp (Qq (Qr Qu 0)))))]
def f35_c10:MC:=.r0 f35_r10
def f35_r11:List MO:=[Qa (Qv 34) (Qd (Qn 7)),Qa (Qv 35) (Qg 4 (Qn 5)),Qa (Qv 36) (Qf 1 false (Qn 35)),Qa (Qv 37) (Qk Qt (Qn 36)),Qa (Qv 38) (Qe Qt Go.BinOp.lss (Qn 34) (Qn 37)),Qa (Qv 39) (Qd (Qn 38)),Qb 39 true (Qv 40),Qa (Qv 40) (Qd (Qn 7)),Qb 39 true (Qv 41),Qa (Qv 41) (Qe Qt Go.BinOp.lss (Qn 40) (Qo (Qp (Qq (Qr Qu 12))))),Qa (Qv 42) (Qm (Qn 39) (Qn 41) (Qo (Qp (Qq (Qs false)))))]
def f35_c11:MC:=.r0 f35_r11
def f35_r16:List MO:=[Qa (Qv 45) (Qg 4 (Qn 6)),Qa (Qv 46) (Qf 1 false (Qn 45)),Qa (Qv 47) (Qg 4 (Qn 5)),Qa (Qv 48) (Qf 1 false (Qn 47)),Qa (Qv 49) (Qd (Qn 7)),Qa (Qv 50) (Qj 3 (Qn 48) (Qn 49)),Qa (Qv 51) (Qf 3 true (Qn 50)),Qa (Qv 52) (Qh 68 [(Qn 51)]),Qa (Qv 53) (MOp.bslice 3 [(Qr Qu 0),(Qr Qu 0),(D.str (ByteArray.mk #[]))] 1 [(0,(Qn 52))]),Qa (Qv 54) (MOp.app 41 3 32 (Qn 46) (Qn 53)),Qa (Qv 55) (Qg 4 (Qn 6)),Qa none (Ql 1 (Qn 55) (Qn 54))]
def f35_c16:MC:=.reg true f35_r16
def f35_r18:List MO:=[Qa (Qv 43) (Qd (Qn 7)),Qa (Qv 44) (Qe Qt Go.BinOp.add (Qn 43) (Qo (Qp (Qq (Qr Qu 1))))),Qa (Qv 7) (Qd (Qn 44))]
def f35_c18:MC:=.r0 f35_r18
def f35_c23:MC:=.seq f35_c10 (.blk 2 (.loop (.seq (.seq f35_c11 (.cond (Qn 42) .skip (MC.exit 2))) (.seq (.blk 3 f35_c16) f35_c18))))
def f35_r24:List MO:=[Qa (Qv 8) (Qd (Qo (Qp (Qq (Qr Qu 0)))))]
def f35_c24:MC:=.r0 f35_r24
def f35_r25:List MO:=[Qa (Qv 56) (Qd (Qn 8)),Qa (Qv 57) (Qg 5 (Qn 5)),Qa (Qv 58) (Qf 1 false (Qn 57)),Qa (Qv 59) (Qk Qt (Qn 58)),Qa (Qv 60) (Qe Qt Go.BinOp.lss (Qn 56) (Qn 59)),Qa (Qv 61) (Qd (Qn 60)),Qb 61 true (Qv 62),Qa (Qv 62) (Qd (Qn 8)),Qb 61 true (Qv 63),Qa (Qv 63) (Qe Qt Go.BinOp.lss (Qn 62) (Qo (Qp (Qq (Qr Qu 12))))),Qa (Qv 64) (Qm (Qn 61) (Qn 63) (Qo (Qp (Qq (Qs false)))))]
def f35_c25:MC:=.r0 f35_r25
def f35_r30:List MO:=[Qa (Qv 67) (Qg 5 (Qn 6)),Qa (Qv 68) (Qf 1 false (Qn 67)),Qa (Qv 69) (Qg 5 (Qn 5)),Qa (Qv 70) (Qf 1 false (Qn 69)),Qa (Qv 71) (Qd (Qn 8)),Qa (Qv 72) (Qj 1 (Qn 70) (Qn 71)),Qa (Qv 73) (Qf 1 false (Qn 72)),Qa (Qv 74) (MOp.bslice 1 [(Qr Qu 0)] 1 [(0,(Qn 73))]),Qa (Qv 75) (MOp.app 3 1 8 (Qn 68) (Qn 74)),Qa (Qv 76) (Qg 5 (Qn 6)),Qa none (Ql 1 (Qn 76) (Qn 75))]
def f35_c30:MC:=.reg true f35_r30
def f35_r32:List MO:=[Qa (Qv 65) (Qd (Qn 8)),Qa (Qv 66) (Qe Qt Go.BinOp.add (Qn 65) (Qo (Qp (Qq (Qr Qu 1))))),Qa (Qv 8) (Qd (Qn 66))]
def f35_c32:MC:=.r0 f35_r32
def f35_c37:MC:=.seq f35_c24 (.blk 4 (.loop (.seq (.seq f35_c25 (.cond (Qn 64) .skip (MC.exit 4))) (.seq (.blk 5 f35_c30) f35_c32))))
def f35_r38:List MO:=[Qa (Qv 77) (Qg 1 (Qn 3)),Qa (Qv 78) (Qf 1 false (Qn 77)),Qa (Qv 79) (Qf 6 true (Qn 6)),Qa (Qv 80) (MOp.bslice 6 [(Qr Qu 0),(Qr Qu 0),(Qr Qu 0),(D.str (ByteArray.mk #[])),(D.sl []),(D.sl [])] 1 [(0,(Qn 79))]),Qa (Qv 81) (MOp.app 44 6 88 (Qn 78) (Qn 80)),Qa (Qv 82) (Qg 1 (Qn 3)),Qa none (Ql 1 (Qn 82) (Qn 81))]
def f35_c38:MC:=.r0 f35_r38
def f35_c41:MC:=.seq f35_c9 (.seq f35_c23 (.seq f35_c37 f35_c38))
def f35_r44:List MO:=[Qa (Qv 21) (Qd (Qn 4)),Qa (Qv 22) (Qe Qt Go.BinOp.add (Qn 21) (Qo (Qp (Qq (Qr Qu 1))))),Qa (Qv 4) (Qd (Qn 22))]
def f35_c44:MC:=.r0 f35_r44
def f35_c46:MC:=.seq (.seq f35_c3 (.cond (Qn 20) .skip (MC.exit 0))) (.seq (.blk 1 (.seq f35_c8 f35_c41)) f35_c44)
def f35_r50:List MO:=[Qa (Qv 83) (Qf 2 true (Qn 3)),Qa none (Ql 2 (Qn 2) (Qn 83))]
def f35_c50:MC:=.r0 f35_r50
def f35_c54:MC:=.seq f35_c1 (.seq (.seq f35_c2 (.blk 0 (.loop f35_c46))) (.seq f35_c50 .ret))
def f35_c55:MC:=.seq f35_c0 f35_c54
attribute [go_sem] f35_r0 f35_r1 f35_r2 f35_r3 f35_r8 f35_r9 f35_r10 f35_r11 f35_r16 f35_r18 f35_r24 f35_r25 f35_r30 f35_r32 f35_r38 f35_r44 f35_r50
theorem f35_k : KK QP 35 f35 [1] f35_c55 [(RV.cell 2 2 true)] 84 := by refine ⟨func35,?_,?_,?_,?_⟩<;>kernel_rfl
theorem f35_ok : callable QP 35 = true := by kernel_rfl
theorem f35_in (h : GI QP gp [(RV.cell 2 2 true)] res 84 f35_c55 args) : Does QP gp 35 args res := f35_k.i f35_ok h
def f36_r0:List MO:=[Qa (Qv 1) (MOp.ibox (Qn 0)),Qa (Qv 2) (Qd (Qo (Qp (Qq (Qr Qu 0))))),Qa (Qv 3) (Qd (Qo (Qp (Qq (Qr Qu 0)))))]
def f36_c0:MC:=.r0 f36_r0
def f36_r1:List MO:=[Qa (Qv 4) (Qf 2 true (Qn 1)),Qa (Qv 5) (Qh 70 [(Qn 4)]),Qa (Qv 6) (Qh 69 [(Qn 5)]),Qa (Qv 7) (Qi (Qn 6) 0),Qa (Qv 8) (Qi (Qn 6) 1),Qa (Qv 2) (Qd (Qn 7)),Qa (Qv 3) (Qd (Qn 8))]
def f36_c1:MC:=.r0 f36_r1
def f36_c4:MC:=.seq f36_c0 (.seq f36_c1 .ret)
attribute [go_sem] f36_r0 f36_r1
theorem f36_k : KK QP 36 f36 [1] f36_c4 [(RV.t 2),(RV.t 3)] 9 := by refine ⟨func36,?_,?_,?_,?_⟩<;>kernel_rfl
theorem f36_ok : callable QP 36 = true := by kernel_rfl
theorem f36_in (h : GI QP gp [(RV.t 2),(RV.t 3)] res 9 f36_c4 args) : Does QP gp 36 args res := f36_k.i f36_ok h
def f44_r0:List MO:=[Qa (Qv 2) (Qd (Qo (Qp A.nil)))]
def f44_c0:MC:=.r0 f44_r0
def f44_r1:List MO:=[Qa (Qv 3) (Qd (Qn 0)),Qa (Qv 4) (MOp.nilq NK.sl false (Qn 3))]
def f44_c1:MC:=.r0 f44_r1
def f44_r2:List MO:=[Qa (Qv 2) (Qd (Qo (Qp A.nil)))]
def f44_c2:MC:=.r0 f44_r2
def f44_r8:List MO:=[Qa (Qv 5) (MOp.bslO 1 [(Qr Qu 0)] 0 []),Qa (Qv 6) (Qd (Qn 0)),Qa (Qv 7) (MOp.app 3 1 8 (Qn 5) (Qn 6)),Qa (Qv 2) (Qd (Qn 7))]
def f44_c8:MC:=.r0 f44_r8
def f44_c12:MC:=.seq f44_c0 (.seq (.seq f44_c1 (.cond (Qn 4) (.seq f44_c2 .ret) .skip)) (.seq f44_c8 .ret))
theorem f44_k : KK QP 44 f44 [5] f44_c12 [(RV.t 2)] 8 := by refine ⟨func44,?_,?_,?_,?_⟩<;>kernel_rfl
theorem f44_ok : callable QP 44 = true := by kernel_rfl
theorem f44_in (h : GI QP gp [(RV.t 2)] res 8 f44_c12 args) : Does QP gp 44 args res := f44_k.i f44_ok h
theorem f44_tri (h : GT QP gp [(RV.t 2)] pre R 8 f44_c12 args) : Tri QP gp 44 args pre R := f44_k.t h
def f49_r0:List MO:=[Qa (Qv 2) (MOp.ibox (Qn 0)),Qa (Qv 4) (MOp.alloc [(Qr Qu 0),(Qr Qu 0),(Qr Qu 0),(D.str (ByteArray.mk #[])),(D.sl []),(D.sl []),(Qr Qu 0)]),Qa (Qv 5) (Qd (Qo (Qp (Qq (Qr Qu 0)))))]
def f49_c0:MC:=.r0 f49_r0
def f49_r1:List MO:=[Qa (Qv 6) (Qf 2 true (Qn 2)),Qa (Qv 7) (Qd (Qn 1)),Qa (Qv 8) (Qh 78 [(Qn 6),(Qn 7)]),Qa (Qv 9) (MOp.not (Qn 8))]
def f49_c1:MC:=.r0 f49_r1
def f49_r2:List MO:=[Qa (Qv 10) (MOp.build [(Qr Qu 0),(Qr Qu 0),(Qr Qu 0),(D.str (ByteArray.mk #[])),(D.sl []),(D.sl []),(Qr Qu 0)] []),Qa none (Ql 7 (Qn 4) (Qn 10)),Qa (Qv 5) (Qd (Qo (Qp (Qq (Qr Qu 2)))))]
def f49_c2:MC:=.r0 f49_r2
def f49_r8:List MO:=[Qa (Qv 11) (Qg 1 (Qn 2)),Qa (Qv 12) (Qf 1 false (Qn 11)),Qa (Qv 13) (Qd (Qn 1)),Qa (Qv 14) (Qj 6 (Qn 12) (Qn 13)),Qa (Qv 15) (Qf 6 true (Qn 14)),Qa (Qv 16) (Qg 1 (Qn 2)),Qa (Qv 17) (Qf 1 false (Qn 16)),Qa (Qv 18) (Qk Qt (Qn 17)),Qa (Qv 19) (MOp.build [(Qr Qu 0),(Qr Qu 0),(Qr Qu 0),(D.str (ByteArray.mk #[])),(D.sl []),(D.sl []),(Qr Qu 0)] [(0,(6,(Qn 15))),(6,(1,(Qn 18)))]),Qa none (Ql 7 (Qn 4) (Qn 19)),Qa (Qv 5) (Qd (Qo (Qp (Qq (Qr Qu 0)))))]
def f49_c8:MC:=.reg true f49_r8
def f49_c12:MC:=.seq f49_c0 (.seq (.seq f49_c1 (.cond (Qn 9) (.seq f49_c2 .ret) .skip)) (.seq f49_c8 .ret))
attribute [go_sem] f49_r0 f49_r1 f49_r2 f49_r8
theorem f49_k : KK QP 49 f49 [2] f49_c12 [(RV.cell 4 7 true),(RV.t 5)] 20 := by refine ⟨func49,?_,?_,?_,?_⟩<;>kernel_rfl
theorem f49_ok : callable QP 49 = true := by kernel_rfl
theorem f49_in (h : GI QP gp [(RV.cell 4 7 true),(RV.t 5)] res 20 f49_c12 args) : Does QP gp 49 args res := f49_k.i f49_ok h
def f50_r0:List MO:=[Qa (Qv 1) (MOp.ibox (Qn 0)),Qa (Qv 2) (Qd (Qo (Qp A.nil)))]
def f50_c0:MC:=.r0 f50_r0
def f50_r1:List MO:=[Qa (Qv 6) (Qg 0 (Qn 1)),Qa (Qv 7) (Qg 0 (Qn 6)),Qa (Qv 8) (Qf 1 false (Qn 7)),Qa (Qv 9) (Qe Qt Go.BinOp.neq (Qn 8) (Qo (Qp (Qq (Qr Qu 2))))),Qa (Qv 10) (Qd (Qn 9)),Qb 10 false (Qv 11),Qa (Qv 11) (Qf 7 true (Qn 1)),Qb 10 false (Qv 12),Qa (Qv 12) (Qh 79 [(Qn 11)]),Qb 10 false (Qv 13),Qa (Qv 13) (MOp.not (Qn 12)),Qa (Qv 14) (Qm (Qn 10) (Qo (Qp (Qq (Qs true)))) (Qn 13))]
def f50_c1:MC:=.r0 f50_r1
def f50_r2:List MO:=[Qa (Qv 2) (Qd (Qo (Qp A.nil)))]
def f50_c2:MC:=.r0 f50_r2
def f50_r8:List MO:=[Qa (Qv 3) (Qd (Qo (Qp A.nil)))]
def f50_c8:MC:=.r0 f50_r8
def f50_r9:List MO:=[Qa (Qv 15) (Qg 0 (Qn 1)),Qa (Qv 16) (Qg 4 (Qn 15)),Qa (Qv 17) (Qf 1 false (Qn 16)),Qa (Qv 18) (Qk Qt (Qn 17)),Qa (Qv 19) (Qd (Qo (Qp (Qq (Qr Qu 0)))))]
def f50_c9:MC:=.r0 f50_r9
def f50_r10:List MO:=[Qa (Qv 20) (Qe Qt Go.BinOp.lss (Qn 19) (Qn 18))]
def f50_c10:MC:=.r0 f50_r10
def f50_r14:List MO:=[Qa (Qv 21) (Qd (Qn 19)),Qa (Qv 22) (Qj 3 (Qn 17) (Qn 19)),Qa (Qv 23) (Qf 3 true (Qn 22)),Qa (Qv 5) (MOp.alloc [(Qr Qu 0),(Qr Qu 0),(D.str (ByteArray.mk #[]))]),Qa (Qv 4) (Qd (Qn 21)),Qa none (Ql 3 (Qn 5) (Qn 23))]
def f50_c14:MC:=.r0 f50_r14
def f50_r15:List MO:=[Qa (Qv 24) (Qd (Qn 3)),Qa (Qv 25) (Qf 3 true (Qn 5)),Qa (Qv 26) (Qg 0 (Qn 1)),Qa (Qv 27) (Qg 5 (Qn 26)),Qa (Qv 28) (Qf 1 false (Qn 27)),Qa (Qv 29) (Qd (Qn 4)),Qa (Qv 30) (Qj 1 (Qn 28) (Qn 29)),Qa (Qv 31) (Qf 1 false (Qn 30)),Qa (Qv 32) (MOp.build [(Qr Qu 0),(Qr Qu 0),(D.str (ByteArray.mk #[])),(Qr Qu 0)] [(0,(3,(Qn 25))),(3,(1,(Qn 31)))]),Qa (Qv 33) (MOp.bslice 4 [(Qr Qu 0),(Qr Qu 0),(D.str (ByteArray.mk #[])),(Qr Qu 0)] 1 [(0,(Qn 32))]),Qa (Qv 34) (MOp.app 87 4 40 (Qn 24) (Qn 33)),Qa (Qv 3) (Qd (Qn 34))]
def f50_c15:MC:=.reg true f50_r15
def f50_r18:List MO:=[Qa (Qv 35) (Qe Qt Go.BinOp.add (Qn 19) (Qo (Qp (Qq (Qr Qu 1))))),Qa (Qv 19) (Qd (Qn 35))]
def f50_c18:MC:=.r0 f50_r18
def f50_c21:MC:=.seq f50_c10 (.seq (.cond (Qn 20) .skip (MC.exit 0)) (.seq (.blk 1 (.seq f50_c14 f50_c15)) f50_c18))
def f50_r25:List MO:=[Qa (Qv 36) (Qd (Qn 3)),Qa (Qv 37) (Qh 80 [(Qn 36),(Qo (Qp (Qq (D.fn (Go.Fn.func 81) []))))])]
def f50_c25:MC:=.r0 f50_r25
def f50_r26:List MO:=[Qa (Qv 38) (Qd (Qn 3)),Qa (Qv 2) (Qd (Qn 38))]
def f50_c26:MC:=.r0 f50_r26
def f50_c30:MC:=.seq (.seq f50_c9 (.blk 0 (.loop f50_c21))) (.seq f50_c25 (.seq f50_c26 .ret))
def f50_c32:MC:=.seq (.seq f50_c1 (.cond (Qn 14) (.seq f50_c2 .ret) .skip)) (.seq f50_c8 f50_c30)
def f50_c33:MC:=.seq f50_c0 f50_c32
attribute [go_sem] f50_r0 f50_r1 f50_r2 f50_r8 f50_r9 f50_r10 f50_r14 f50_r15 f50_r18 f50_r25 f50_r26
theorem f50_k : KK QP 50 f50 [1] f50_c33 [(RV.t 2)] 39 := by refine ⟨func50,?_,?_,?_,?_⟩<;>kernel_rfl
theorem f50_ok : callable QP 50 = true := by kernel_rfl
theorem f50_in (h : GI QP gp [(RV.t 2)] res 39 f50_c33 args) : Does QP gp 50 args res := f50_k.i f50_ok h
def f64_r0:List MO:=[Qa (Qv 2) (MOp.ibox (Qn 0)),Qa (Qv 4) (Qd (Qo (Qp A.nil))),Qa (Qv 5) (Qd (Qo (Qp (Qq (Qr Qu 0)))))]
def f64_c0:MC:=.r0 f64_r0
def f64_r1:List MO:=[Qa (Qv 12) (Qf 2 true (Qn 2)),Qa (Qv 13) (Qd (Qn 1)),Qa (Qv 14) (Qh 49 [(Qn 12),(Qn 13)]),Qa (Qv 11) (Qd (Qn 14)),Qa (Qv 15) (Qi (Qn 11) 0),Qa (Qv 16) (Qi (Qn 11) 1),Qa (Qv 6) (MOp.alloc [(Qr Qu 0),(Qr Qu 0),(Qr Qu 0),(D.str (ByteArray.mk #[])),(D.sl []),(D.sl []),(Qr Qu 0)]),Qa none (Ql 7 (Qn 6) (Qn 15)),Qa (Qv 7) (Qd (Qn 16))]
def f64_c1:MC:=.r0 f64_r1
def f64_r2:List MO:=[Qa (Qv 8) (Qd (Qo (Qp A.nil)))]
def f64_c2:MC:=.r0 f64_r2
def f64_r3:List MO:=[Qa (Qv 17) (Qf 7 true (Qn 6)),Qa (Qv 18) (Qh 50 [(Qn 17)]),Qa (Qv 19) (Qk Qt (Qn 18)),Qa (Qv 20) (Qd (Qo (Qp (Qq (Qr Qu 0)))))]
def f64_c3:MC:=.r0 f64_r3
def f64_r4:List MO:=[Qa (Qv 21) (Qe Qt Go.BinOp.lss (Qn 20) (Qn 19))]
def f64_c4:MC:=.r0 f64_r4
def f64_r8:List MO:=[Qa (Qv 22) (Qj 4 (Qn 18) (Qn 20)),Qa (Qv 23) (Qf 4 true (Qn 22)),Qa (Qv 10) (MOp.alloc [(Qr Qu 0),(Qr Qu 0),(D.str (ByteArray.mk #[])),(Qr Qu 0)]),Qa none (Ql 4 (Qn 10) (Qn 23))]
def f64_c8:MC:=.r0 f64_r8
def f64_r9:List MO:=[Qa (Qv 24) (Qd (Qn 8)),Qa (Qv 25) (Qg 0 (Qn 10)),Qa (Qv 26) (Qf 3 true (Qn 25)),Qa (Qv 27) (MOp.bslice 3 [(Qr Qu 0),(Qr Qu 0),(D.str (ByteArray.mk #[]))] 1 [(0,(Qn 26))]),Qa (Qv 28) (MOp.app 41 3 32 (Qn 24) (Qn 27)),Qa (Qv 8) (Qd (Qn 28))]
def f64_c9:MC:=.r0 f64_r9
def f64_r12:List MO:=[Qa (Qv 29) (Qe Qt Go.BinOp.add (Qn 20) (Qo (Qp (Qq (Qr Qu 1))))),Qa (Qv 20) (Qd (Qn 29))]
def f64_c12:MC:=.r0 f64_r12
def f64_c15:MC:=.seq f64_c4 (.seq (.cond (Qn 21) .skip (MC.exit 0)) (.seq (.blk 1 (.seq f64_c8 f64_c9)) f64_c12))
def f64_r19:List MO:=[Qa (Qv 30) (Qd (Qn 8)),Qa (Qv 31) (Qd (Qn 7)),Qa (Qv 4) (Qd (Qn 30)),Qa (Qv 5) (Qd (Qn 31))]
def f64_c19:MC:=.r0 f64_r19
def f64_c23:MC:=.seq f64_c2 (.seq (.seq f64_c3 (.blk 0 (.loop f64_c15))) (.seq f64_c19 .ret))
def f64_c25:MC:=.seq f64_c0 (.seq f64_c1 f64_c23)
theorem f64_k : KK QP 64 f64 [2] f64_c25 [(RV.t 4),(RV.t 5)] 32 := by refine ⟨func64,?_,?_,?_,?_⟩<;>kernel_rfl
theorem f64_ok : callable QP 64 = true := by kernel_rfl
theorem f64_in (h : GI QP gp [(RV.t 4),(RV.t 5)] res 32 f64_c25 args) : Does QP gp 64 args res := f64_k.i f64_ok h
def f68_r0:List MO:=[Qa (Qv 1) (MOp.ibox (Qn 0)),Qa (Qv 2) (MOp.alloc [(Qr Qu 0),(Qr Qu 0),(D.str (ByteArray.mk #[]))])]
def f68_c0:MC:=.r0 f68_r0
def f68_r1:List MO:=[Qa (Qv 3) (Qg 0 (Qn 1)),Qa (Qv 4) (Qf 1 false (Qn 3)),Qa (Qv 5) (Qg 1 (Qn 1)),Qa (Qv 6) (Qf 1 false (Qn 5)),Qa (Qv 7) (Qg 2 (Qn 1)),Qa (Qv 8) (Qf 1 false (Qn 7)),Qa (Qv 9) (Qh 94 [(Qn 8)]),Qa (Qv 10) (MOp.build [(Qr Qu 0),(Qr Qu 0),(D.str (ByteArray.mk #[]))] [(0,(1,(Qn 4))),(1,(1,(Qn 6))),(2,(1,(Qn 9)))]),Qa none (Ql 3 (Qn 2) (Qn 10))]
def f68_c1:MC:=.reg true f68_r1
def f68_c4:MC:=.seq f68_c0 (.seq f68_c1 .ret)
attribute [go_sem] f68_r0 f68_r1
theorem f68_k : KK QP 68 f68 [1] f68_c4 [(RV.cell 2 3 true)] 11 := by refine ⟨func68,?_,?_,?_,?_⟩<;>kernel_rfl
theorem f68_ok : callable QP 68 = true := by kernel_rfl
theorem f68_in (h : GI QP gp [(RV.cell 2 3 true)] res 11 f68_c4 args) : Does QP gp 68 args res := f68_k.i f68_ok h
def f69_r0:List MO:=[Qa (Qv 2) (Qd (Qo (Qp (Qq (Qr Qu 0))))),Qa (Qv 3) (Qd (Qo (Qp (Qq (Qr Qu 0)))))]
def f69_c0:MC:=.r0 f69_r0
def f69_r1:List MO:=[Qa (Qv 4) (MOp.alloc [(Qr Qu 0),(Qr Qu 0)])]
def f69_c1:MC:=.r0 f69_r1
def f69_r2:List MO:=[Qa (Qv 5) (Qd (Qn 0)),Qa (Qv 6) (MOp.mkI 156 (Qn 4)),Qa (Qv 7) (Qh 87 [(Qn 5),(Qn 6)])]
def f69_c2:MC:=.r0 f69_r2
def f69_r3:List MO:=[Qa (Qv 8) (Qg 0 (Qn 4)),Qa (Qv 9) (Qf 1 false (Qn 8)),Qa (Qv 10) (Qg 1 (Qn 4)),Qa (Qv 11) (Qf 1 false (Qn 10)),Qa (Qv 2) (Qd (Qn 9)),Qa (Qv 3) (Qd (Qn 11))]
def f69_c3:MC:=.reg true f69_r3
def f69_r9:List MO:=[Qa (Qv 2) (Qd (Qo (Qp (Qq (Qr Qu 0))))),Qa (Qv 3) (Qd (Qo (Qp (Qq (Qr Qu 0)))))]
def f69_c9:MC:=.r0 f69_r9
def f69_c13:MC:=.seq f69_c1 (.seq (.seq f69_c2 (.cond (Qn 7) (.seq f69_c3 .ret) .skip)) (.seq f69_c9 .ret))
def f69_c14:MC:=.seq f69_c0 f69_c13
attribute [go_sem] f69_r0 f69_r1 f69_r2 f69_r3 f69_r9
theorem f69_k : KK QP 69 f69 [] f69_c14 [(RV.t 2),(RV.t 3)] 12 := by refine ⟨func69,?_,?_,?_,?_⟩<;>kernel_rfl
theorem f69_ok : callable QP 69 = true := by kernel_rfl
theorem f69_in (h : GI QP gp [(RV.t 2),(RV.t 3)] res 12 f69_c14 args) : Does QP gp 69 args res := f69_k.i f69_ok h
def f70_r0:List MO:=[Qa (Qv 1) (MOp.ibox (Qn 0)),Qa (Qv 2) (MOp.alloc [D.nilI])]
def f70_c0:MC:=.r0 f70_r0
def f70_r1:List MO:=[Qa (Qv 6) (Qg 1 (Qn 1)),Qa (Qv 7) (Qf 1 false (Qn 6)),Qa (Qv 8) (Qk Qt (Qn 7)),Qa (Qv 9) (Qe Qt Go.BinOp.gtr (Qn 8) (Qo (Qp (Qq (Qr Qu 200))))),Qa (Qv 5) (Qd (Qn 9))]
def f70_c1:MC:=.r0 f70_r1
def f70_r2:List MO:=[Qa (Qv 10) (MOp.build [(Qr Qu 0),(Qr Qu 0)] [(0,(1,(Qo (Qp (Qq (Qr Qu 0)))))),(1,(1,(Qo (Qp (Qq (Qr Qu 71))))))]),Qa (Qv 11) (MOp.mkI 155 (Qn 10)),Qa none (Ql 1 (Qn 2) (Qn 11))]
def f70_c2:MC:=.r0 f70_r2
def f70_r5:List MO:=[Qa (Qv 13) (Qf 2 true (Qn 1)),Qa (Qv 14) (Qg 0 (Qn 1)),Qa (Qv 15) (Qf 1 false (Qn 14)),Qa (Qv 16) (Qh 78 [(Qn 13),(Qn 15)]),Qa (Qv 17) (MOp.not (Qn 16)),Qa (Qv 12) (Qd (Qn 17))]
def f70_c5:MC:=.r0 f70_r5
def f70_r6:List MO:=[Qa (Qv 18) (MOp.build [(Qr Qu 0),(Qr Qu 0)] [(0,(1,(Qo (Qp (Qq (Qr Qu (-1))))))),(1,(1,(Qo (Qp (Qq (Qr Qu 70))))))]),Qa (Qv 19) (MOp.mkI 155 (Qn 18)),Qa none (Ql 1 (Qn 2) (Qn 19))]
def f70_c6:MC:=.r0 f70_r6
def f70_c13:MC:=.seq f70_c1 (.cond (Qn 5) (.seq f70_c2 .ret) (.seq f70_c5 (.cond (Qn 12) (.seq f70_c6 .ret) .skip)))
def f70_r15:List MO:=[Qa (Qv 20) (Qf 2 true (Qn 1)),Qa (Qv 21) (Qh 95 [(Qn 20)])]
def f70_c15:MC:=.r0 f70_r15
def f70_r16:List MO:=[Qa (Qv 3) (Qd (Qn 22))]
def f70_c16:MC:=.r0 f70_r16
def f70_r17:List MO:=[Qa (Qv 4) (MOp.alloc [(Qr Qu 0),(Qr Qu 0),(Qr Qu 0),(D.str (ByteArray.mk #[])),(D.sl []),(D.sl []),(Qr Qu 0)]),Qa none (Ql 7 (Qn 4) (Qn 23))]
def f70_c17:MC:=.r0 f70_r17
def f70_r19:List MO:=[Qa (Qv 24) (Qf 7 true (Qn 4)),Qa (Qv 25) (Qh 96 [(Qn 24)]),Qa (Qv 26) (MOp.not (Qn 25))]
def f70_c19:MC:=.r0 f70_r19
def f70_r20:List MO:=[Qa (Qv 27) (Qd (Qn 3)),Qa (Qv 28) (MOp.build [(Qr Qu 0),(Qr Qu 0)] [(0,(1,(Qn 27))),(1,(1,(Qo (Qp (Qq (Qr Qu 70))))))]),Qa (Qv 29) (MOp.mkI 155 (Qn 28)),Qa none (Ql 1 (Qn 2) (Qn 29))]
def f70_c20:MC:=.r0 f70_r20
def f70_c27:MC:=.rf (Qn 21) [22,23] (.seq f70_c16 f70_c17) (.blk 2 (.seq f70_c19 (.cond (Qn 26) (.seq f70_c20 .ret) .skip)))
def f70_r30:List MO:=[Qa none (Ql 1 (Qn 2) (Qo (Qp (Qq D.nilI))))]
def f70_c30:MC:=.r0 f70_r30
def f70_c34:MC:=.seq (.blk 0 f70_c13) (.seq (.seq f70_c15 (.blk 1 f70_c27)) (.seq f70_c30 .ret))
def f70_c35:MC:=.seq f70_c0 f70_c34
attribute [go_sem] f70_r0 f70_r1 f70_r2 f70_r5 f70_r6 f70_r15 f70_r16 f70_r17 f70_r19 f70_r20 f70_r30
theorem f70_k : KK QP 70 f70 [1] f70_c35 [(RV.cell 2 1 false)] 30 := by refine ⟨func70,?_,?_,?_,?_⟩<;>kernel_rfl
theorem f70_ok : callable QP 70 = true := by kernel_rfl
theorem f70_in (h : GI QP gp [(RV.cell 2 1 false)] res 30 f70_c35 args) : Does QP gp 70 args res := f70_k.i f70_ok h
def f78_r0:List MO:=[Qa (Qv 2) (MOp.ibox (Qn 0)),Qa (Qv 4) (Qd (Qo (Qp (Qq (Qs false)))))]
def f78_c0:MC:=.r0 f78_r0
def f78_r1:List MO:=[Qa (Qv 5) (Qd (Qn 1)),Qa (Qv 6) (Qe Qt Go.BinOp.geq (Qn 5) (Qo (Qp (Qq (Qr Qu 0))))),Qa (Qv 7) (Qd (Qn 6)),Qb 7 true (Qv 8),Qa (Qv 8) (Qd (Qn 1)),Qb 7 true (Qv 9),Qa (Qv 9) (Qg 1 (Qn 2)),Qb 7 true (Qv 10),Qa (Qv 10) (Qf 1 false (Qn 9)),Qb 7 true (Qv 11),Qa (Qv 11) (Qk Qt (Qn 10)),Qb 7 true (Qv 12),Qa (Qv 12) (Qe Qt Go.BinOp.lss (Qn 8) (Qn 11)),Qa (Qv 13) (Qm (Qn 7) (Qn 12) (Qo (Qp (Qq (Qs false))))),Qa (Qv 4) (Qd (Qn 13))]
def f78_c1:MC:=.r0 f78_r1
def f78_c4:MC:=.seq f78_c0 (.seq f78_c1 .ret)
attribute [go_sem] f78_r0 f78_r1
theorem f78_k : KK QP 78 f78 [2] f78_c4 [(RV.t 4)] 14 := by refine ⟨func78,?_,?_,?_,?_⟩<;>kernel_rfl
theorem f78_ok : callable QP 78 = true := by kernel_rfl
theorem f78_in (h : GI QP gp [(RV.t 4)] res 14 f78_c4 args) : Does QP gp 78 args res := f78_k.i f78_ok h
def f79_r0:List MO:=[Qa (Qv 1) (MOp.ibox (Qn 0)),Qa (Qv 2) (Qd (Qo (Qp (Qq (Qs false)))))]
def f79_c0:MC:=.r0 f79_r0
def f79_r1:List MO:=[Qa (Qv 3) (Qg 0 (Qn 1)),Qa (Qv 4) (Qg 4 (Qn 3)),Qa (Qv 5) (Qf 1 false (Qn 4)),Qa (Qv 6) (Qk Qt (Qn 5)),Qa (Qv 7) (Qg 0 (Qn 1)),Qa (Qv 8) (Qg 5 (Qn 7)),Qa (Qv 9) (Qf 1 false (Qn 8)),Qa (Qv 10) (Qk Qt (Qn 9)),Qa (Qv 11) (Qe Qt Go.BinOp.eql (Qn 6) (Qn 10)),Qa (Qv 2) (Qd (Qn 11))]
def f79_c1:MC:=.r0 f79_r1
def f79_c4:MC:=.seq f79_c0 (.seq f79_c1 .ret)
attribute [go_sem] f79_r0 f79_r1
theorem f79_k : KK QP 79 f79 [1] f79_c4 [(RV.t 2)] 12 := by refine ⟨func79,?_,?_,?_,?_⟩<;>kernel_rfl
theorem f79_ok : callable QP 79 = true := by kernel_rfl
theorem f79_in (h : GI QP gp [(RV.t 2)] res 12 f79_c4 args) : Does QP gp 79 args res := f79_k.i f79_ok h
def f80_r0:List MO:=[Qa (Qv 4) (Qd (Qn 0)),Qa (Qv 5) (Qd (Qn 0)),Qa (Qv 6) (Qk Qt (Qn 5)),Qa (Qv 7) (Qd (Qn 1)),Qa (Qv 8) (Qh 105 [(Qn 4),(Qn 6),(Qn 7)])]
def f80_c0:MC:=.r0 f80_r0
attribute [go_sem] f80_r0
theorem f80_k : KK QP 80 f80 [] f80_c0 [] 9 := by refine ⟨func80,?_,?_,?_,?_⟩<;>kernel_rfl
theorem f80_ok : callable QP 80 = true := by kernel_rfl
theorem f80_tri (h : GT QP gp [] pre R 9 f80_c0 args) : Tri QP gp 80 args pre R := f80_k.t h
def f81_r0:List MO:=[Qa (Qv 2) (MOp.ibox (Qn 0)),Qa (Qv 3) (MOp.ibox (Qn 1)),Qa (Qv 4) (Qd (Qo (Qp (Qq (Qr Qu 0)))))]
def f81_c0:MC:=.r0 f81_r0
def f81_r1:List MO:=[Qa (Qv 5) (Qg 0 (Qn 2)),Qa (Qv 6) (Qf 3 true (Qn 5)),Qa (Qv 7) (Qg 0 (Qn 3)),Qa (Qv 8) (Qf 3 true (Qn 7)),Qa (Qv 9) (Qh 82 [(Qn 6),(Qn 8)]),Qa (Qv 4) (Qd (Qn 9))]
def f81_c1:MC:=.r0 f81_r1
def f81_c4:MC:=.seq f81_c0 (.seq f81_c1 .ret)
attribute [go_sem] f81_r0 f81_r1
theorem f81_k : KK QP 81 f81 [2,3] f81_c4 [(RV.t 4)] 10 := by refine ⟨func81,?_,?_,?_,?_⟩<;>kernel_rfl
theorem f81_ok : callable QP 81 = true := by kernel_rfl
theorem f81_in (h : GI QP gp [(RV.t 4)] res 10 f81_c4 args) : Does QP gp 81 args res := f81_k.i f81_ok h
def f82_r0:List MO:=[Qa (Qv 2) (MOp.ibox (Qn 0)),Qa (Qv 3) (MOp.ibox (Qn 1)),Qa (Qv 4) (Qd (Qo (Qp (Qq (Qr Qu 0)))))]
def f82_c0:MC:=.r0 f82_r0
def f82_r1:List MO:=[Qa (Qv 5) (Qf 3 true (Qn 2)),Qa (Qv 6) (Qf 3 true (Qn 3)),Qa (Qv 7) (MOp.eqs false [Qt,Qt,Leaf.s] (Qn 5) (Qn 6))]
def f82_c1:MC:=.r0 f82_r1
def f82_r2:List MO:=[Qa (Qv 4) (Qd (Qo (Qp (Qq (Qr Qu 0)))))]
def f82_c2:MC:=.r0 f82_r2
def f82_r8:List MO:=[Qa (Qv 8) (Qg 0 (Qn 2)),Qa (Qv 9) (Qf 1 false (Qn 8)),Qa (Qv 10) (Qg 0 (Qn 3)),Qa (Qv 11) (Qf 1 false (Qn 10)),Qa (Qv 12) (Qh 107 [(Qn 9),(Qn 11)]),Qa (Qv 13) (Qg 1 (Qn 2)),Qa (Qv 14) (Qf 1 false (Qn 13)),Qa (Qv 15) (Qg 1 (Qn 3)),Qa (Qv 16) (Qf 1 false (Qn 15)),Qa (Qv 17) (Qh 107 [(Qn 14),(Qn 16)]),Qa (Qv 18) (Qg 2 (Qn 2)),Qa (Qv 19) (Qf 1 false (Qn 18)),Qa (Qv 20) (Qg 2 (Qn 3)),Qa (Qv 21) (Qf 1 false (Qn 20)),Qc (Qv 22) (Qh 108 [(Qn 19),(Qn 21)]),Qa (Qv 23) (MOp.bslice 1 [(Qr Qu 0)] 3 [(0,(Qn 12)),(1,(Qn 17)),(2,(Qn 22))]),Qc (Qv 24) (Qh 106 [(Qn 23)]),Qa (Qv 4) (Qd (Qn 24))]
def f82_c8:MC:=.reg true f82_r8
def f82_c12:MC:=.seq f82_c0 (.seq (.seq f82_c1 (.cond (Qn 7) (.seq f82_c2 .ret) .skip)) (.seq f82_c8 .ret))
attribute [go_sem] f82_r0 f82_r1 f82_r2 f82_r8
theorem f82_k : KK QP 82 f82 [2,3] f82_c12 [(RV.t 4)] 25 := by refine ⟨func82,?_,?_,?_,?_⟩<;>kernel_rfl
theorem f82_ok : callable QP 82 = true := by kernel_rfl
theorem f82_in (h : GI QP gp [(RV.t 4)] res 25 f82_c12 args) : Does QP gp 82 args res := f82_k.i f82_ok h
def f94_r0:List MO:=[Qa (Qv 2) (Qd (Qo (Qp (Qq (D.str (ByteArray.mk #[]))))))]
def f94_c0:MC:=.r0 f94_r0
def f94_r1:List MO:=[Qa (Qv 3) (Qd (Qn 0)),Qa (Qv 4) (Qd (Qn 0)),Qa (Qv 5) (Qk Leaf.s (Qn 4)),Qa (Qv 6) (MOp.min (Qn 5) (Qo (Qp (Qq (Qr Qu 100))))),Qa (Qv 7) (MOp.slcS (Qn 3) none (Qv (Qn 6))),Qa (Qv 2) (Qd (Qn 7))]
def f94_c1:MC:=.r0 f94_r1
def f94_c4:MC:=.seq f94_c0 (.seq f94_c1 .ret)
attribute [go_sem] f94_r0 f94_r1
theorem f94_k : KK QP 94 f94 [] f94_c4 [(RV.t 2)] 8 := by refine ⟨func94,?_,?_,?_,?_⟩<;>kernel_rfl
theorem f94_ok : callable QP 94 = true := by kernel_rfl
theorem f94_in (h : GI QP gp [(RV.t 2)] res 8 f94_c4 args) : Does QP gp 94 args res := f94_k.i f94_ok h
def f95_r0:List MO:=[Qa (Qv 1) (MOp.ibox (Qn 0)),Qa (Qv 2) (Qd (Qo (Qp (Qq D.nilF))))]
def f95_c0:MC:=.r0 f95_r0
def f95_r1:List MO:=[Qa (Qv 3) (MOp.mkF (Go.Fn.func 121) [(Qn 1)]),Qa (Qv 2) (Qd (Qn 3))]
def f95_c1:MC:=.r0 f95_r1
def f95_c4:MC:=.seq f95_c0 (.seq f95_c1 .ret)
attribute [go_sem] f95_r0 f95_r1
theorem f95_k : KK QP 95 f95 [1] f95_c4 [(RV.t 2)] 4 := by refine ⟨func95,?_,?_,?_,?_⟩<;>kernel_rfl
theorem f95_ok : callable QP 95 = true := by kernel_rfl
theorem f95_in (h : GI QP gp [(RV.t 2)] res 4 f95_c4 args) : Does QP gp 95 args res := f95_k.i f95_ok h
def f96_r0:List MO:=[Qa (Qv 1) (MOp.ibox (Qn 0)),Qa (Qv 2) (Qd (Qo (Qp (Qq (Qs false)))))]
def f96_c0:MC:=.r0 f96_r0
def f96_r1:List MO:=[Qa (Qv 4) (MOp.build [D.nilF,D.nilF,D.nilF] [(0,(1,(Qo (Qp (Qq (D.fn (Go.Fn.func 122) [])))))),(1,(1,(Qo (Qp (Qq (D.fn (Go.Fn.func 123) [])))))),(2,(1,(Qo (Qp (Qq (D.fn (Go.Fn.func 124) []))))))]),Qa (Qv 3) (MOp.alloc [D.nilF,D.nilF,D.nilF]),Qa none (Ql 3 (Qn 3) (Qn 4))]
def f96_c1:MC:=.r0 f96_r1
def f96_r2:List MO:=[Qa (Qv 5) (Qg 0 (Qn 1)),Qa (Qv 6) (Qg 0 (Qn 5)),Qa (Qv 7) (Qf 1 false (Qn 6)),Qa (Qv 8) (Qe Qt Go.BinOp.geq (Qn 7) (Qo (Qp (Qq (Qr Qu 0))))),Qa (Qv 9) (Qd (Qn 8)),Qb 9 true (Qv 10),Qa (Qv 10) (Qg 0 (Qn 1)),Qb 9 true (Qv 11),Qa (Qv 11) (Qg 0 (Qn 10)),Qb 9 true (Qv 12),Qa (Qv 12) (Qf 1 false (Qn 11)),Qb 9 true (Qv 13),Qa (Qv 13) (Qe Qt Go.BinOp.lss (Qn 12) (Qo (Qp (Qq (Qr Qu 3))))),Qa (Qv 14) (Qm (Qn 9) (Qn 13) (Qo (Qp (Qq (Qs false))))),Qa (Qv 15) (Qd (Qn 14)),Qb 15 true (Qv 16),Qa (Qv 16) (Qg 0 (Qn 1)),Qb 15 true (Qv 17),Qa (Qv 17) (Qg 0 (Qn 16)),Qb 15 true (Qv 18),Qa (Qv 18) (Qf 1 false (Qn 17)),Qb 15 true (Qv 19),Qa (Qv 19) (MOp.iadA 3 1 (Qn 3) (Qn 18)),Qb 15 true (Qv 20),Qa (Qv 20) (Qf 1 false (Qn 19)),Qb 15 true (Qv 21),Qa (Qv 21) (Qf 7 true (Qn 1)),Qb 15 true (Qv 22),Qc (Qv 22) (MOp.callv (Qn 20) [(Qn 21)]),Qa (Qv 23) (Qm (Qn 15) (Qn 22) (Qo (Qp (Qq (Qs false))))),Qa (Qv 2) (Qd (Qn 23))]
def f96_c2:MC:=.reg true f96_r2
def f96_c6:MC:=.seq f96_c0 (.seq f96_c1 (.seq f96_c2 .ret))
attribute [go_sem] f96_r0 f96_r1 f96_r2
theorem f96_k : KK QP 96 f96 [1] f96_c6 [(RV.t 2)] 24 := by refine ⟨func96,?_,?_,?_,?_⟩<;>kernel_rfl
theorem f96_ok : callable QP 96 = true := by kernel_rfl
theorem f96_in (h : GI QP gp [(RV.t 2)] res 24 f96_c6 args) : Does QP gp 96 args res := f96_k.i f96_ok h
def f105_r0:List MO:=[Qa (Qv 6) (Qd (Qo (Qp (Qq (Qr Qu 20)))))]
def f105_c0:MC:=.r0 f105_r0
def f105_r1:List MO:=[Qa (Qv 10) (Qd (Qn 6)),Qa (Qv 7) (Qd (Qo (Qp (Qq (Qr Qu 0))))),Qa (Qv 8) (Qd (Qn 10))]
def f105_c1:MC:=.r0 f105_r1
def f105_r2:List MO:=[Qa (Qv 11) (Qd (Qn 8)),Qa (Qv 12) (Qd (Qn 1)),Qa (Qv 13) (Qe Qt Go.BinOp.leq (Qn 11) (Qn 12))]
def f105_c2:MC:=.r0 f105_r2
def f105_r7:List MO:=[Qa (Qv 14) (Qd (Qn 0)),Qa (Qv 15) (Qd (Qn 7)),Qa (Qv 16) (Qd (Qn 8)),Qa (Qv 17) (Qd (Qn 2)),Qa (Qv 18) (Qh 134 [(Qn 14),(Qn 15),(Qn 16),(Qn 17)])]
def f105_c7:MC:=.r0 f105_r7
def f105_r8:List MO:=[Qa (Qv 19) (Qd (Qn 8)),Qa (Qv 7) (Qd (Qn 19))]
def f105_c8:MC:=.r0 f105_r8
def f105_r9:List MO:=[Qa (Qv 20) (Qd (Qn 8)),Qa (Qv 21) (Qd (Qn 6)),Qa (Qv 22) (Qe Qt Go.BinOp.add (Qn 20) (Qn 21)),Qa (Qv 8) (Qd (Qn 22))]
def f105_c9:MC:=.r0 f105_r9
def f105_c13:MC:=.seq (.seq f105_c2 (.cond (Qn 13) .skip (MC.exit 0))) (.blk 1 (.seq f105_c7 (.seq f105_c8 f105_c9)))
def f105_r16:List MO:=[Qa (Qv 23) (Qd (Qn 0)),Qa (Qv 24) (Qd (Qn 7)),Qa (Qv 25) (Qd (Qn 1)),Qa (Qv 26) (Qd (Qn 2)),Qa (Qv 27) (Qh 134 [(Qn 23),(Qn 24),(Qn 25),(Qn 26)])]
def f105_c16:MC:=.r0 f105_r16
def f105_r17:List MO:=[Qa (Qv 28) (Qd (Qn 6)),Qa (Qv 29) (Qd (Qn 1)),Qa (Qv 30) (Qe Qt Go.BinOp.lss (Qn 28) (Qn 29))]
def f105_c17:MC:=.r0 f105_r17
def f105_r22:List MO:=[Qa (Qv 31) (Qd (Qn 6)),Qa (Qv 32) (Qe Qt Go.BinOp.mul (Qo (Qp (Qq (Qr Qu 2)))) (Qn 31)),Qa (Qv 7) (Qd (Qo (Qp (Qq (Qr Qu 0))))),Qa (Qv 8) (Qd (Qn 32))]
def f105_c22:MC:=.r0 f105_r22
def f105_r23:List MO:=[Qa (Qv 33) (Qd (Qn 8)),Qa (Qv 34) (Qd (Qn 1)),Qa (Qv 35) (Qe Qt Go.BinOp.leq (Qn 33) (Qn 34))]
def f105_c23:MC:=.r0 f105_r23
def f105_r28:List MO:=[Qa (Qv 36) (Qd (Qn 0)),Qa (Qv 37) (Qd (Qn 7)),Qa (Qv 38) (Qd (Qn 7)),Qa (Qv 39) (Qd (Qn 6)),Qa (Qv 40) (Qe Qt Go.BinOp.add (Qn 38) (Qn 39)),Qa (Qv 41) (Qd (Qn 8)),Qa (Qv 42) (Qd (Qn 2)),Qa (Qv 43) (Qh 135 [(Qn 36),(Qn 37),(Qn 40),(Qn 41),(Qn 42)])]
def f105_c28:MC:=.r0 f105_r28
def f105_r29:List MO:=[Qa (Qv 44) (Qd (Qn 8)),Qa (Qv 7) (Qd (Qn 44))]
def f105_c29:MC:=.r0 f105_r29
def f105_r30:List MO:=[Qa (Qv 45) (Qd (Qn 8)),Qa (Qv 46) (Qd (Qn 6)),Qa (Qv 47) (Qe Qt Go.BinOp.mul (Qo (Qp (Qq (Qr Qu 2)))) (Qn 46)),Qa (Qv 48) (Qe Qt Go.BinOp.add (Qn 45) (Qn 47)),Qa (Qv 8) (Qd (Qn 48))]
def f105_c30:MC:=.r0 f105_r30
def f105_c34:MC:=.seq (.seq f105_c23 (.cond (Qn 35) .skip (MC.exit 4))) (.blk 5 (.seq f105_c28 (.seq f105_c29 f105_c30)))
def f105_r37:List MO:=[Qa (Qv 49) (Qd (Qn 7)),Qa (Qv 50) (Qd (Qn 6)),Qa (Qv 51) (Qe Qt Go.BinOp.add (Qn 49) (Qn 50)),Qa (Qv 9) (Qd (Qn 51))]
def f105_c37:MC:=.r0 f105_r37
def f105_r38:List MO:=[Qa (Qv 52) (Qd (Qn 9)),Qa (Qv 53) (Qd (Qn 1)),Qa (Qv 54) (Qe Qt Go.BinOp.lss (Qn 52) (Qn 53))]
def f105_c38:MC:=.r0 f105_r38
def f105_r39:List MO:=[Qa (Qv 55) (Qd (Qn 0)),Qa (Qv 56) (Qd (Qn 7)),Qa (Qv 57) (Qd (Qn 9)),Qa (Qv 58) (Qd (Qn 1)),Qa (Qv 59) (Qd (Qn 2)),Qa (Qv 60) (Qh 135 [(Qn 55),(Qn 56),(Qn 57),(Qn 58),(Qn 59)])]
def f105_c39:MC:=.r0 f105_r39
def f105_r44:List MO:=[Qa (Qv 61) (Qd (Qn 6)),Qa (Qv 62) (Qe Qt Go.BinOp.mul (Qn 61) (Qo (Qp (Qq (Qr Qu 2))))),Qa (Qv 6) (Qd (Qn 62))]
def f105_c44:MC:=.r0 f105_r44
def f105_c45:MC:=.seq (.seq f105_c37 (.seq f105_c38 (.cond (Qn 54) f105_c39 .skip))) f105_c44
def f105_c49:MC:=.seq (.seq f105_c17 (.cond (Qn 30) .skip (MC.exit 2))) (.blk 3 (.seq f105_c22 (.seq (.blk 4 (.loop f105_c34)) f105_c45)))
def f105_c54:MC:=.seq f105_c1 (.seq (.blk 0 (.loop f105_c13)) (.seq f105_c16 (.blk 2 (.loop f105_c49))))
def f105_c55:MC:=.seq f105_c0 f105_c54
attribute [go_sem] f105_r0 f105_r1 f105_r2 f105_r7 f105_r8 f105_r9 f105_r16 f105_r17 f105_r22 f105_r23 f105_r28 f105_r29 f105_r30 f105_r37 f105_r38 f105_r39 f105_r44
theorem f105_k : KK QP 105 f105 [] f105_c55 [] 63 := by refine ⟨func105,?_,?_,?_,?_⟩<;>kernel_rfl
theorem f105_ok : callable QP 105 = true := by kernel_rfl
theorem f105_tri (h : GT QP gp [] pre R 63 f105_c55 args) : Tri QP gp 105 args pre R := f105_k.t h
def f106_r0:List MO:=[Qa (Qv 2) (Qd (Qo (Qp (Qq (Qr Qu 0)))))]
def f106_c0:MC:=.r0 f106_r0
def f106_r1:List MO:=[Qa (Qv 3) (Qd (Qo (Qp (Qq (Qr Qu 0)))))]
def f106_c1:MC:=.r0 f106_r1
def f106_r2:List MO:=[Qa (Qv 6) (Qd (Qn 0)),Qa (Qv 7) (Qk Qt (Qn 6)),Qa (Qv 8) (Qd (Qo (Qp (Qq (Qr Qu 0)))))]
def f106_c2:MC:=.r0 f106_r2
def f106_r3:List MO:=[Qa (Qv 9) (Qe Qt Go.BinOp.lss (Qn 8) (Qn 7))]
def f106_c3:MC:=.r0 f106_r3
def f106_r7:List MO:=[Qa (Qv 10) (Qj 1 (Qn 6) (Qn 8)),Qa (Qv 11) (Qf 1 false (Qn 10)),Qa (Qv 5) (Qd (Qn 11))]
def f106_c7:MC:=.r0 f106_r7
def f106_r8:List MO:=[Qa (Qv 12) (Qd (Qn 5)),Qa (Qv 13) (Qd (Qn 3)),Qa (Qv 14) (Qe Qt Go.BinOp.neq (Qn 12) (Qn 13))]
def f106_c8:MC:=.r0 f106_r8
def f106_r9:List MO:=[Qa (Qv 15) (Qd (Qn 5)),Qa (Qv 2) (Qd (Qn 15))]
def f106_c9:MC:=.r0 f106_r9
def f106_r17:List MO:=[Qa (Qv 16) (Qe Qt Go.BinOp.add (Qn 8) (Qo (Qp (Qq (Qr Qu 1))))),Qa (Qv 8) (Qd (Qn 16))]
def f106_c17:MC:=.r0 f106_r17
def f106_c18:MC:=.seq (.blk 1 (.seq f106_c7 (.seq f106_c8 (.cond (Qn 14) (.seq f106_c9 .ret) .skip)))) f106_c17
def f106_r24:List MO:=[Qa (Qv 17) (Qd (Qn 3)),Qa (Qv 2) (Qd (Qn 17))]
def f106_c24:MC:=.r0 f106_r24
def f106_c27:MC:=.seq (.seq f106_c2 (.blk 0 (.loop (.seq f106_c3 (.seq (.cond (Qn 9) .skip (MC.exit 0)) f106_c18))))) (.seq f106_c24 .ret)
def f106_c29:MC:=.seq f106_c0 (.seq f106_c1 f106_c27)
attribute [go_sem] f106_r0 f106_r1 f106_r2 f106_r3 f106_r7 f106_r8 f106_r9 f106_r17 f106_r24
theorem f106_k : KK QP 106 f106 [] f106_c29 [(RV.t 2)] 18 := by refine ⟨func106,?_,?_,?_,?_⟩<;>kernel_rfl
theorem f106_ok : callable QP 106 = true := by kernel_rfl
theorem f106_in (h : GI QP gp [(RV.t 2)] res 18 f106_c29 args) : Does QP gp 106 args res := f106_k.i f106_ok h
def f107_r0:List MO:=[Qa (Qv 4) (Qd (Qo (Qp (Qq (Qr Qu 0)))))]
def f107_c0:MC:=.r0 f107_r0
def f107_r1:List MO:=[Qa (Qv 7) (Qd (Qn 0)),Qa (Qv 8) (Qh 136 [(Qn 7)]),Qa (Qv 5) (Qd (Qn 8))]
def f107_c1:MC:=.r0 f107_r1
def f107_r2:List MO:=[Qa (Qv 9) (Qd (Qn 1)),Qa (Qv 10) (Qh 136 [(Qn 9)]),Qa (Qv 6) (Qd (Qn 10))]
def f107_c2:MC:=.r0 f107_r2
def f107_r3:List MO:=[Qa (Qv 11) (Qd (Qn 5))]
def f107_c3:MC:=.r0 f107_r3
def f107_r4:List MO:=[Qa (Qv 12) (Qd (Qn 6))]
def f107_c4:MC:=.r0 f107_r4
def f107_r5:List MO:=[Qa (Qv 4) (Qd (Qo (Qp (Qq (Qr Qu 0)))))]
def f107_c5:MC:=.r0 f107_r5
def f107_r11:List MO:=[Qa (Qv 4) (Qd (Qo (Qp (Qq (Qr Qu (-1))))))]
def f107_c11:MC:=.r0 f107_r11
def f107_c17:MC:=.seq f107_c3 (.cond (Qn 11) (.seq (.seq f107_c4 (.cond (Qn 12) (.seq f107_c5 .ret) .skip)) (.seq f107_c11 .ret)) .skip)
def f107_r18:List MO:=[Qa (Qv 13) (Qd (Qn 6))]
def f107_c18:MC:=.r0 f107_r18
def f107_r19:List MO:=[Qa (Qv 4) (Qd (Qo (Qp (Qq (Qr Qu 1)))))]
def f107_c19:MC:=.r0 f107_r19
def f107_r25:List MO:=[Qa (Qv 14) (Qd (Qn 0)),Qa (Qv 15) (Qd (Qn 1)),Qa (Qv 16) (Qe Qt Go.BinOp.lss (Qn 14) (Qn 15))]
def f107_c25:MC:=.r0 f107_r25
def f107_r26:List MO:=[Qa (Qv 4) (Qd (Qo (Qp (Qq (Qr Qu (-1))))))]
def f107_c26:MC:=.r0 f107_r26
def f107_r32:List MO:=[Qa (Qv 17) (Qd (Qn 0)),Qa (Qv 18) (Qd (Qn 1)),Qa (Qv 19) (Qe Qt Go.BinOp.gtr (Qn 17) (Qn 18))]
def f107_c32:MC:=.r0 f107_r32
def f107_r33:List MO:=[Qa (Qv 4) (Qd (Qo (Qp (Qq (Qr Qu 1)))))]
def f107_c33:MC:=.r0 f107_r33
def f107_r39:List MO:=[Qa (Qv 4) (Qd (Qo (Qp (Qq (Qr Qu 0)))))]
def f107_c39:MC:=.r0 f107_r39
def f107_c43:MC:=.seq (.seq f107_c25 (.cond (Qn 16) (.seq f107_c26 .ret) .skip)) (.seq (.seq f107_c32 (.cond (Qn 19) (.seq f107_c33 .ret) .skip)) (.seq f107_c39 .ret))
def f107_c45:MC:=.seq f107_c17 (.seq (.seq f107_c18 (.cond (Qn 13) (.seq f107_c19 .ret) .skip)) f107_c43)
def f107_c48:MC:=.seq f107_c0 (.seq f107_c1 (.seq f107_c2 f107_c45))
attribute [go_sem] f107_r0 f107_r1 f107_r2 f107_r3 f107_r4 f107_r5 f107_r11 f107_r18 f107_r19 f107_r25 f107_r26 f107_r32 f107_r33 f107_r39
theorem f107_k : KK QP 107 f107 [] f107_c48 [(RV.t 4)] 20 := by refine ⟨func107,?_,?_,?_,?_⟩<;>kernel_rfl
theorem f107_ok : callable QP 107 = true := by kernel_rfl
theorem f107_in (h : GI QP gp [(RV.t 4)] res 20 f107_c48 args) : Does QP gp 107 args res := f107_k.i f107_ok h
def f108_r0:List MO:=[Qa (Qv 4) (Qd (Qo (Qp (Qq (Qr Qu 0)))))]
def f108_c0:MC:=.r0 f108_r0
def f108_r1:List MO:=[Qa (Qv 7) (Qd (Qn 0)),Qa (Qv 8) (Qh 137 [(Qn 7)]),Qa (Qv 5) (Qd (Qn 8))]
def f108_c1:MC:=.r0 f108_r1
def f108_r2:List MO:=[Qa (Qv 9) (Qd (Qn 1)),Qa (Qv 10) (Qh 137 [(Qn 9)]),Qa (Qv 6) (Qd (Qn 10))]
def f108_c2:MC:=.r0 f108_r2
def f108_r3:List MO:=[Qa (Qv 11) (Qd (Qn 5))]
def f108_c3:MC:=.r0 f108_r3
def f108_r4:List MO:=[Qa (Qv 12) (Qd (Qn 6))]
def f108_c4:MC:=.r0 f108_r4
def f108_r5:List MO:=[Qa (Qv 4) (Qd (Qo (Qp (Qq (Qr Qu 0)))))]
def f108_c5:MC:=.r0 f108_r5
def f108_r11:List MO:=[Qa (Qv 4) (Qd (Qo (Qp (Qq (Qr Qu (-1))))))]
def f108_c11:MC:=.r0 f108_r11
def f108_c17:MC:=.seq f108_c3 (.cond (Qn 11) (.seq (.seq f108_c4 (.cond (Qn 12) (.seq f108_c5 .ret) .skip)) (.seq f108_c11 .ret)) .skip)
def f108_r18:List MO:=[Qa (Qv 13) (Qd (Qn 6))]
def f108_c18:MC:=.r0 f108_r18
def f108_r19:List MO:=[Qa (Qv 4) (Qd (Qo (Qp (Qq (Qr Qu 1)))))]
def f108_c19:MC:=.r0 f108_r19
def f108_r25:List MO:=[Qa (Qv 14) (Qd (Qn 0)),Qa (Qv 15) (Qd (Qn 1)),Qa (Qv 16) (Qe Leaf.s Go.BinOp.lss (Qn 14) (Qn 15))]
def f108_c25:MC:=.r0 f108_r25
def f108_r26:List MO:=[Qa (Qv 4) (Qd (Qo (Qp (Qq (Qr Qu (-1))))))]
def f108_c26:MC:=.r0 f108_r26
def f108_r32:List MO:=[Qa (Qv 17) (Qd (Qn 0)),Qa (Qv 18) (Qd (Qn 1)),Qa (Qv 19) (Qe Leaf.s Go.BinOp.gtr (Qn 17) (Qn 18))]
def f108_c32:MC:=.r0 f108_r32
def f108_r33:List MO:=[Qa (Qv 4) (Qd (Qo (Qp (Qq (Qr Qu 1)))))]
def f108_c33:MC:=.r0 f108_r33
def f108_r39:List MO:=[Qa (Qv 4) (Qd (Qo (Qp (Qq (Qr Qu 0)))))]
def f108_c39:MC:=.r0 f108_r39
def f108_c43:MC:=.seq (.seq f108_c25 (.cond (Qn 16) (.seq f108_c26 .ret) .skip)) (.seq (.seq f108_c32 (.cond (Qn 19) (.seq f108_c33 .ret) .skip)) (.seq f108_c39 .ret))
def f108_c45:MC:=.seq f108_c17 (.seq (.seq f108_c18 (.cond (Qn 13) (.seq f108_c19 .ret) .skip)) f108_c43)
def f108_c48:MC:=.seq f108_c0 (.seq f108_c1 (.seq f108_c2 f108_c45))
attribute [go_sem] f108_r0 f108_r1 f108_r2 f108_r3 f108_r4 f108_r5 f108_r11 f108_r18 f108_r19 f108_r25 f108_r26 f108_r32 f108_r33 f108_r39
theorem f108_k : KK QP 108 f108 [] f108_c48 [(RV.t 4)] 20 := by refine ⟨func108,?_,?_,?_,?_⟩<;>kernel_rfl
theorem f108_ok : callable QP 108 = true := by kernel_rfl
theorem f108_in (h : GI QP gp [(RV.t 4)] res 20 f108_c48 args) : Does QP gp 108 args res := f108_k.i f108_ok h
def f121_r1:List MO:=[Qa (Qv 5) (Qg 1 (Qn 1)),Qa (Qv 6) (Qf 1 false (Qn 5)),Qa (Qv 7) (Qk Qt (Qn 6)),Qa (Qv 8) (Qd (Qo (Qp (Qq (Qr Qu 0)))))]
def f121_c1:MC:=.r0 f121_r1
def f121_r2:List MO:=[Qa (Qv 9) (Qe Qt Go.BinOp.lss (Qn 8) (Qn 7))]
def f121_c2:MC:=.r0 f121_r2
def f121_r6:List MO:=[Qa (Qv 10) (Qd (Qn 8)),Qa (Qv 11) (Qj 6 (Qn 6) (Qn 8)),Qa (Qv 12) (Qf 6 true (Qn 11)),Qa (Qv 4) (MOp.alloc [(Qr Qu 0),(Qr Qu 0),(Qr Qu 0),(D.str (ByteArray.mk #[])),(D.sl []),(D.sl [])]),Qa (Qv 3) (Qd (Qn 10)),Qa none (Ql 6 (Qn 4) (Qn 12))]
def f121_c6:MC:=.r0 f121_r6
def f121_r7:List MO:=[Qa (Qv 13) (Qd (Qn 0)),Qa (Qv 14) (Qd (Qn 3)),Qa (Qv 15) (Qf 6 true (Qn 4)),Qa (Qv 16) (Qg 1 (Qn 1)),Qa (Qv 17) (Qf 1 false (Qn 16)),Qa (Qv 18) (Qk Qt (Qn 17)),Qa (Qv 19) (MOp.build [(Qr Qu 0),(Qr Qu 0),(Qr Qu 0),(D.str (ByteArray.mk #[])),(D.sl []),(D.sl []),(Qr Qu 0)] [(0,(6,(Qn 15))),(6,(1,(Qn 18)))]),Qa (Qv 20) (MOp.callv (Qn 13) [(Qn 14),(Qn 19)]),Qa (Qv 21) (MOp.not (Qn 20))]
def f121_c7:MC:=.r0 f121_r7
def f121_r14:List MO:=[Qa (Qv 22) (Qe Qt Go.BinOp.add (Qn 8) (Qo (Qp (Qq (Qr Qu 1))))),Qa (Qv 8) (Qd (Qn 22))]
def f121_c14:MC:=.r0 f121_r14
def f121_c17:MC:=.seq f121_c2 (.seq (.cond (Qn 9) .skip (MC.exit 0)) (.seq (.blk 1 (.seq f121_c6 (.seq f121_c7 (.cond (Qn 21) (MC.exit 0) .skip)))) f121_c14))
def f121_c22:MC:=.scope (.seq .skip (.seq f121_c1 (.blk 0 (.loop f121_c17))))
attribute [go_sem] f121_r1 f121_r2 f121_r6 f121_r7 f121_r14
theorem f121_k : KK QP 121 f121 [] f121_c22 [] 23 := by refine ⟨func121,?_,?_,?_,?_⟩<;>kernel_rfl
theorem f121_ok : callable QP 121 = true := by kernel_rfl
theorem f121_tri (h : GT QP gp [] pre R 23 f121_c22 args) : Tri QP gp 121 args pre R := f121_k.t h
def f122_r0:List MO:=[Qa (Qv 1) (MOp.ibox (Qn 0)),Qa (Qv 2) (Qd (Qo (Qp (Qq (Qs false)))))]
def f122_c0:MC:=.r0 f122_r0
def f122_r1:List MO:=[Qa (Qv 3) (Qg 0 (Qn 1)),Qa (Qv 4) (Qg 1 (Qn 3)),Qa (Qv 5) (Qf 3 true (Qn 4)),Qa (Qv 6) (Qh 127 [(Qn 5)]),Qa (Qv 7) (Qg 0 (Qn 1)),Qa (Qv 8) (Qg 4 (Qn 7)),Qa (Qv 9) (Qf 1 false (Qn 8)),Qa (Qv 10) (Qk Qt (Qn 9)),Qa (Qv 11) (Qe Qt Go.BinOp.eql (Qn 10) (Qo (Qp (Qq (Qr Qu 0))))),Qa (Qv 12) (Qg 0 (Qn 1)),Qa (Qv 13) (Qg 5 (Qn 12)),Qa (Qv 14) (Qf 1 false (Qn 13)),Qa (Qv 15) (Qk Qt (Qn 14)),Qa (Qv 16) (Qe Qt Go.BinOp.eql (Qn 15) (Qo (Qp (Qq (Qr Qu 0))))),Qa (Qv 17) (MOp.bslice 1 [(Qs false)] 3 [(0,(Qn 6)),(1,(Qn 11)),(2,(Qn 16))]),Qc (Qv 18) (Qh 143 [(Qn 17)]),Qa (Qv 2) (Qd (Qn 18))]
def f122_c1:MC:=.reg true f122_r1
def f122_c4:MC:=.seq f122_c0 (.seq f122_c1 .ret)
attribute [go_sem] f122_r0 f122_r1
theorem f122_k : KK QP 122 f122 [1] f122_c4 [(RV.t 2)] 19 := by refine ⟨func122,?_,?_,?_,?_⟩<;>kernel_rfl
theorem f122_ok : callable QP 122 = true := by kernel_rfl
theorem f122_in (h : GI QP gp [(RV.t 2)] res 19 f122_c4 args) : Does QP gp 122 args res := f122_k.i f122_ok h
def f123_r0:List MO:=[Qa (Qv 1) (MOp.ibox (Qn 0)),Qa (Qv 2) (Qd (Qo (Qp (Qq (Qs false)))))]
def f123_c0:MC:=.r0 f123_r0
def f123_r1:List MO:=[Qa (Qv 3) (Qg 0 (Qn 1)),Qa (Qv 4) (Qg 1 (Qn 3)),Qa (Qv 5) (Qf 3 true (Qn 4)),Qa (Qv 6) (MOp.build [(Qr Qu 0),(Qr Qu 0),(D.str (ByteArray.mk #[]))] []),Qa (Qv 7) (MOp.eqs false [Qt,Qt,Leaf.s] (Qn 5) (Qn 6)),Qa (Qv 8) (Qg 0 (Qn 1)),Qa (Qv 9) (Qg 4 (Qn 8)),Qa (Qv 10) (Qf 1 false (Qn 9)),Qa (Qv 11) (Qk Qt (Qn 10)),Qa (Qv 12) (Qe Qt Go.BinOp.eql (Qn 11) (Qo (Qp (Qq (Qr Qu 0))))),Qa (Qv 13) (Qf 7 true (Qn 1)),Qa (Qv 14) (Qh 144 [(Qn 13)]),Qa (Qv 15) (MOp.bslice 1 [(Qs false)] 3 [(0,(Qn 7)),(1,(Qn 12)),(2,(Qn 14))]),Qc (Qv 16) (Qh 143 [(Qn 15)]),Qa (Qv 2) (Qd (Qn 16))]
def f123_c1:MC:=.reg true f123_r1
def f123_c4:MC:=.seq f123_c0 (.seq f123_c1 .ret)
attribute [go_sem] f123_r0 f123_r1
theorem f123_k : KK QP 123 f123 [1] f123_c4 [(RV.t 2)] 17 := by refine ⟨func123,?_,?_,?_,?_⟩<;>kernel_rfl
theorem f123_ok : callable QP 123 = true := by kernel_rfl
theorem f123_in (h : GI QP gp [(RV.t 2)] res 17 f123_c4 args) : Does QP gp 123 args res := f123_k.i f123_ok h
def f124_r0:List MO:=[Qa (Qv 1) (MOp.ibox (Qn 0)),Qa (Qv 2) (Qd (Qo (Qp (Qq (Qs false)))))]
def f124_c0:MC:=.r0 f124_r0
def f124_r1:List MO:=[Qa (Qv 3) (Qg 0 (Qn 1)),Qa (Qv 4) (Qg 1 (Qn 3)),Qa (Qv 5) (Qf 3 true (Qn 4)),Qa (Qv 6) (MOp.build [(Qr Qu 0),(Qr Qu 0),(D.str (ByteArray.mk #[]))] []),Qa (Qv 7) (MOp.eqs false [Qt,Qt,Leaf.s] (Qn 5) (Qn 6)),Qa (Qv 8) (Qf 7 true (Qn 1)),Qa (Qv 9) (Qh 79 [(Qn 8)]),Qa (Qv 10) (Qf 7 true (Qn 1)),Qa (Qv 11) (Qh 145 [(Qn 10)]),Qa (Qv 12) (Qf 7 true (Qn 1)),Qa (Qv 13) (Qh 144 [(Qn 12)]),Qa (Qv 14) (MOp.bslice 1 [(Qs false)] 4 [(0,(Qn 7)),(1,(Qn 9)),(2,(Qn 11)),(3,(Qn 13))]),Qc (Qv 15) (Qh 143 [(Qn 14)]),Qa (Qv 2) (Qd (Qn 15))]
def f124_c1:MC:=.reg true f124_r1
def f124_c4:MC:=.seq f124_c0 (.seq f124_c1 .ret)
attribute [go_sem] f124_r0 f124_r1
theorem f124_k : KK QP 124 f124 [1] f124_c4 [(RV.t 2)] 16 := by refine ⟨func124,?_,?_,?_,?_⟩<;>kernel_rfl
theorem f124_ok : callable QP 124 = true := by kernel_rfl
theorem f124_in (h : GI QP gp [(RV.t 2)] res 16 f124_c4 args) : Does QP gp 124 args res := f124_k.i f124_ok h
def f127_r0:List MO:=[Qa (Qv 1) (MOp.ibox (Qn 0)),Qa (Qv 2) (Qd (Qo (Qp (Qq (Qs false)))))]
def f127_c0:MC:=.r0 f127_r0
def f127_r1:List MO:=[Qa (Qv 3) (Qg 0 (Qn 1)),Qa (Qv 4) (Qf 1 false (Qn 3))]
def f127_c1:MC:=.r0 f127_r1
def f127_r2:List MO:=[Qa (Qv 6) (Qe Qt Go.BinOp.eql (Qn 4) (Qo (Qp (Qq (Qr Qu 0))))),Qa (Qv 5) (Qd (Qn 6))]
def f127_c2:MC:=.r0 f127_r2
def f127_r3:List MO:=[Qa (Qv 7) (Qf 3 true (Qn 1)),Qa (Qv 8) (MOp.build [(Qr Qu 0),(Qr Qu 0),(D.str (ByteArray.mk #[]))] []),Qa (Qv 9) (MOp.eqs false [Qt,Qt,Leaf.s] (Qn 7) (Qn 8)),Qa (Qv 2) (Qd (Qn 9))]
def f127_c3:MC:=.r0 f127_r3
def f127_r6:List MO:=[Qa (Qv 11) (Qe Qt Go.BinOp.eql (Qn 4) (Qo (Qp (Qq (Qr Qu 1))))),Qa (Qv 10) (Qd (Qn 11))]
def f127_c6:MC:=.r0 f127_r6
def f127_r7:List MO:=[Qa (Qv 12) (Qg 2 (Qn 1)),Qa (Qv 13) (Qf 1 false (Qn 12)),Qa (Qv 14) (Qe Leaf.s Go.BinOp.eql (Qn 13) (Qo (Qp (Qq (D.str (ByteArray.mk #[])))))),Qa (Qv 15) (Qd (Qn 14)),Qb 15 true (Qv 16),Qa (Qv 16) (Qg 1 (Qn 1)),Qb 15 true (Qv 17),Qa (Qv 17) (Qf 1 false (Qn 16)),Qb 15 true (Qv 18),Qa (Qv 18) (Qe Qt Go.BinOp.eql (Qn 17) (Qo (Qp (Qq (Qr Qu 0))))),Qb 15 true (Qv 19),Qa (Qv 19) (Qd (Qn 18)),Qb 19 false (Qv 20),Qa (Qv 20) (Qg 1 (Qn 1)),Qb 19 false (Qv 21),Qa (Qv 21) (Qf 1 false (Qn 20)),Qb 19 false (Qv 22),Qa (Qv 22) (Qe Qt Go.BinOp.eql (Qn 21) (Qo (Qp (Qq (Qr Qu 1))))),Qb 15 true (Qv 23),Qa (Qv 23) (Qm (Qn 19) (Qo (Qp (Qq (Qs true)))) (Qn 22)),Qa (Qv 24) (Qm (Qn 15) (Qn 23) (Qo (Qp (Qq (Qs false))))),Qa (Qv 2) (Qd (Qn 24))]
def f127_c7:MC:=.r0 f127_r7
def f127_r10:List MO:=[Qa (Qv 26) (Qe Qt Go.BinOp.eql (Qn 4) (Qo (Qp (Qq (Qr Qu 2))))),Qa (Qv 25) (Qd (Qn 26))]
def f127_c10:MC:=.r0 f127_r10
def f127_r11:List MO:=[Qa (Qv 27) (Qg 2 (Qn 1)),Qa (Qv 28) (Qf 1 false (Qn 27)),Qa (Qv 29) (Qe Leaf.s Go.BinOp.eql (Qn 28) (Qo (Qp (Qq (D.str (ByteArray.mk #[])))))),Qa (Qv 30) (Qd (Qn 29)),Qb 30 true (Qv 31),Qa (Qv 31) (Qg 1 (Qn 1)),Qb 30 true (Qv 32),Qa (Qv 32) (Qf 1 false (Qn 31)),Qb 30 true (Qv 33),Qa (Qv 33) (Qe Qt Go.BinOp.geq (Qn 32) (Qo (Qp (Qq (Qr Qu (-999999999999999)))))),Qa (Qv 34) (Qm (Qn 30) (Qn 33) (Qo (Qp (Qq (Qs false))))),Qa (Qv 35) (Qd (Qn 34)),Qb 35 true (Qv 36),Qa (Qv 36) (Qg 1 (Qn 1)),Qb 35 true (Qv 37),Qa (Qv 37) (Qf 1 false (Qn 36)),Qb 35 true (Qv 38),Qa (Qv 38) (Qe Qt Go.BinOp.leq (Qn 37) (Qo (Qp (Qq (Qr Qu 999999999999999))))),Qa (Qv 39) (Qm (Qn 35) (Qn 38) (Qo (Qp (Qq (Qs false))))),Qa (Qv 2) (Qd (Qn 39))]
def f127_c11:MC:=.r0 f127_r11
def f127_r14:List MO:=[Qa (Qv 41) (Qe Qt Go.BinOp.eql (Qn 4) (Qo (Qp (Qq (Qr Qu 3))))),Qa (Qv 40) (Qd (Qn 41))]
def f127_c14:MC:=.r0 f127_r14
def f127_r15:List MO:=[Qa (Qv 42) (Qg 1 (Qn 1)),Qa (Qv 43) (Qf 1 false (Qn 42)),Qa (Qv 44) (Qe Qt Go.BinOp.eql (Qn 43) (Qo (Qp (Qq (Qr Qu 0))))),Qa (Qv 45) (Qd (Qn 44)),Qb 45 true (Qv 46),Qa (Qv 46) (Qg 2 (Qn 1)),Qb 45 true (Qv 47),Qa (Qv 47) (Qf 1 false (Qn 46)),Qb 45 true (Qv 48),Qa (Qv 48) (Qh 147 [(Qn 47)]),Qa (Qv 49) (Qm (Qn 45) (Qn 48) (Qo (Qp (Qq (Qs false))))),Qa (Qv 2) (Qd (Qn 49))]
def f127_c15:MC:=.r0 f127_r15
def f127_c22:MC:=.seq f127_c10 (.cond (Qn 25) (.seq f127_c11 .ret) (.seq f127_c14 (.cond (Qn 40) (.seq f127_c15 .ret) .skip)))
def f127_c25:MC:=.cond (Qn 5) (.seq f127_c3 .ret) (.seq f127_c6 (.cond (Qn 10) (.seq f127_c7 .ret) f127_c22))
def f127_r29:List MO:=[Qa (Qv 2) (Qd (Qo (Qp (Qq (Qs false)))))]
def f127_c29:MC:=.r0 f127_r29
def f127_c32:MC:=.seq (.seq f127_c1 (.blk 0 (.seq f127_c2 f127_c25))) (.seq f127_c29 .ret)
def f127_c33:MC:=.seq f127_c0 f127_c32
attribute [go_sem] f127_r0 f127_r1 f127_r2 f127_r3 f127_r6 f127_r7 f127_r10 f127_r11 f127_r14 f127_r15 f127_r29
theorem f127_k : KK QP 127 f127 [1] f127_c33 [(RV.t 2)] 50 := by refine ⟨func127,?_,?_,?_,?_⟩<;>kernel_rfl
theorem f127_ok : callable QP 127 = true := by kernel_rfl
theorem f127_in (h : GI QP gp [(RV.t 2)] res 50 f127_c33 args) : Does QP gp 127 args res := f127_k.i f127_ok h
def f134_r0:List MO:=[Qa (Qv 10) (Qd (Qn 1)),Qa (Qv 11) (Qe Qt Go.BinOp.add (Qn 10) (Qo (Qp (Qq (Qr Qu 1))))),Qa (Qv 8) (Qd (Qn 11))]
def f134_c0:MC:=.r0 f134_r0
def f134_r1:List MO:=[Qa (Qv 12) (Qd (Qn 8)),Qa (Qv 13) (Qd (Qn 2)),Qa (Qv 14) (Qe Qt Go.BinOp.lss (Qn 12) (Qn 13))]
def f134_c1:MC:=.r0 f134_r1
def f134_r6:List MO:=[Qa (Qv 17) (Qd (Qn 8)),Qa (Qv 9) (Qd (Qn 17))]
def f134_c6:MC:=.r0 f134_r6
def f134_r7:List MO:=[Qa (Qv 18) (Qd (Qn 9)),Qa (Qv 19) (Qd (Qn 1)),Qa (Qv 20) (Qe Qt Go.BinOp.gtr (Qn 18) (Qn 19)),Qa (Qv 21) (Qd (Qn 20)),Qb 21 true (Qv 22),Qa (Qv 22) (Qd (Qn 3)),Qb 21 true (Qv 23),Qa (Qv 23) (Qd (Qn 0)),Qb 21 true (Qv 24),Qa (Qv 24) (Qd (Qn 9)),Qb 21 true (Qv 25),Qa (Qv 25) (Qj 4 (Qn 23) (Qn 24)),Qb 21 true (Qv 26),Qa (Qv 26) (Qf 4 true (Qn 25)),Qb 21 true (Qv 27),Qa (Qv 27) (Qd (Qn 0)),Qb 21 true (Qv 28),Qa (Qv 28) (Qd (Qn 9)),Qb 21 true (Qv 29),Qa (Qv 29) (Qe Qt Go.BinOp.sub (Qn 28) (Qo (Qp (Qq (Qr Qu 1))))),Qb 21 true (Qv 30),Qa (Qv 30) (Qj 4 (Qn 27) (Qn 29)),Qb 21 true (Qv 31),Qa (Qv 31) (Qf 4 true (Qn 30)),Qb 21 true (Qv 32),Qc (Qv 32) (MOp.callv (Qn 22) [(Qn 26),(Qn 31)]),Qb 21 true (Qv 33),Qa (Qv 33) (Qe Qt Go.BinOp.lss (Qn 32) (Qo (Qp (Qq (Qr Qu 0))))),Qa (Qv 34) (Qm (Qn 21) (Qn 33) (Qo (Qp (Qq (Qs false)))))]
def f134_c7:MC:=.reg true f134_r7
def f134_r12:List MO:=[Qa (Qv 37) (Qd (Qn 0)),Qa (Qv 38) (Qd (Qn 9)),Qa (Qv 39) (Qd (Qn 0)),Qa (Qv 40) (Qd (Qn 9)),Qa (Qv 41) (Qe Qt Go.BinOp.sub (Qn 40) (Qo (Qp (Qq (Qr Qu 1))))),Qa (Qv 42) (Qd (Qn 0)),Qa (Qv 43) (Qd (Qn 9)),Qa (Qv 44) (Qe Qt Go.BinOp.sub (Qn 43) (Qo (Qp (Qq (Qr Qu 1))))),Qa (Qv 45) (Qj 4 (Qn 42) (Qn 44)),Qa (Qv 46) (Qf 4 true (Qn 45)),Qa (Qv 47) (Qd (Qn 0)),Qa (Qv 48) (Qd (Qn 9)),Qa (Qv 49) (Qj 4 (Qn 47) (Qn 48)),Qa (Qv 50) (Qf 4 true (Qn 49)),Qa (Qv 51) (Qj 4 (Qn 37) (Qn 38)),Qa none (Ql 4 (Qn 51) (Qn 46)),Qa (Qv 52) (Qj 4 (Qn 39) (Qn 41)),Qa none (Ql 4 (Qn 52) (Qn 50))]
def f134_c12:MC:=.reg true f134_r12
def f134_r14:List MO:=[Qa (Qv 35) (Qd (Qn 9)),Qa (Qv 36) (Qe Qt Go.BinOp.sub (Qn 35) (Qo (Qp (Qq (Qr Qu 1))))),Qa (Qv 9) (Qd (Qn 36))]
def f134_c14:MC:=.r0 f134_r14
def f134_c19:MC:=.seq f134_c6 (.blk 2 (.loop (.seq (.seq f134_c7 (.cond (Qn 34) .skip (MC.exit 2))) (.seq (.blk 3 f134_c12) f134_c14))))
def f134_r21:List MO:=[Qa (Qv 15) (Qd (Qn 8)),Qa (Qv 16) (Qe Qt Go.BinOp.add (Qn 15) (Qo (Qp (Qq (Qr Qu 1))))),Qa (Qv 8) (Qd (Qn 16))]
def f134_c21:MC:=.r0 f134_r21
def f134_c26:MC:=.seq f134_c0 (.blk 0 (.loop (.seq (.seq f134_c1 (.cond (Qn 14) .skip (MC.exit 0))) (.seq (.blk 1 f134_c19) f134_c21))))
attribute [go_sem] f134_r0 f134_r1 f134_r6 f134_r7 f134_r12 f134_r14 f134_r21
theorem f134_k : KK QP 134 f134 [] f134_c26 [] 53 := by refine ⟨func134,?_,?_,?_,?_⟩<;>kernel_rfl
theorem f134_ok : callable QP 134 = true := by kernel_rfl
theorem f134_tri (h : GT QP gp [] pre R 53 f134_c26 args) : Tri QP gp 134 args pre R := f134_k.t h
def f136_r0:List MO:=[Qa (Qv 2) (Qd (Qo (Qp (Qq (Qs false)))))]
def f136_c0:MC:=.r0 f136_r0
def f136_r1:List MO:=[Qa (Qv 3) (Qd (Qn 0)),Qa (Qv 4) (Qd (Qn 0)),Qa (Qv 5) (Qe Qt Go.BinOp.neq (Qn 3) (Qn 4)),Qa (Qv 2) (Qd (Qn 5))]
def f136_c1:MC:=.r0 f136_r1
def f136_c4:MC:=.seq f136_c0 (.seq f136_c1 .ret)
attribute [go_sem] f136_r0 f136_r1
theorem f136_k : KK QP 136 f136 [] f136_c4 [(RV.t 2)] 6 := by refine ⟨func136,?_,?_,?_,?_⟩<;>kernel_rfl
theorem f136_ok : callable QP 136 = true := by kernel_rfl
theorem f136_in (h : GI QP gp [(RV.t 2)] res 6 f136_c4 args) : Does QP gp 136 args res := f136_k.i f136_ok h
def f137_r0:List MO:=[Qa (Qv 2) (Qd (Qo (Qp (Qq (Qs false)))))]
def f137_c0:MC:=.r0 f137_r0
def f137_r1:List MO:=[Qa (Qv 3) (Qd (Qn 0)),Qa (Qv 4) (Qd (Qn 0)),Qa (Qv 5) (Qe Leaf.s Go.BinOp.neq (Qn 3) (Qn 4)),Qa (Qv 2) (Qd (Qn 5))]
def f137_c1:MC:=.r0 f137_r1
def f137_c4:MC:=.seq f137_c0 (.seq f137_c1 .ret)
attribute [go_sem] f137_r0 f137_r1
theorem f137_k : KK QP 137 f137 [] f137_c4 [(RV.t 2)] 6 := by refine ⟨func137,?_,?_,?_,?_⟩<;>kernel_rfl
theorem f137_ok : callable QP 137 = true := by kernel_rfl
theorem f137_in (h : GI QP gp [(RV.t 2)] res 6 f137_c4 args) : Does QP gp 137 args res := f137_k.i f137_ok h
def f143_r0:List MO:=[Qa (Qv 2) (Qd (Qo (Qp (Qq (Qs false)))))]
def f143_c0:MC:=.r0 f143_r0
def f143_r1:List MO:=[Qa (Qv 3) (Qd (Qn 0)),Qa (Qv 4) (Qh 154 [(Qn 3),(Qo (Qp (Qq (Qs false))))]),Qa (Qv 5) (MOp.not (Qn 4)),Qa (Qv 2) (Qd (Qn 5))]
def f143_c1:MC:=.r0 f143_r1
def f143_c4:MC:=.seq f143_c0 (.seq f143_c1 .ret)
attribute [go_sem] f143_r0 f143_r1
theorem f143_k : KK QP 143 f143 [] f143_c4 [(RV.t 2)] 6 := by refine ⟨func143,?_,?_,?_,?_⟩<;>kernel_rfl
theorem f143_ok : callable QP 143 = true := by kernel_rfl
theorem f143_in (h : GI QP gp [(RV.t 2)] res 6 f143_c4 args) : Does QP gp 143 args res := f143_k.i f143_ok h
def f144_r0:List MO:=[Qa (Qv 1) (MOp.ibox (Qn 0)),Qa (Qv 2) (Qd (Qo (Qp (Qq (Qs false)))))]
def f144_c0:MC:=.r0 f144_r0
def f144_r1:List MO:=[Qa (Qv 4) (MOp.mkF (Go.Fn.func 155) [(Qn 1)]),Qa (Qv 3) (Qd (Qn 4))]
def f144_c1:MC:=.r0 f144_r1
def f144_r2:List MO:=[Qa (Qv 5) (Qg 0 (Qn 1)),Qa (Qv 6) (Qg 5 (Qn 5)),Qa (Qv 7) (Qf 1 false (Qn 6)),Qa (Qv 8) (Qd (Qn 3)),Qa (Qv 9) (Qh 156 [(Qn 7),(Qn 8)]),Qa (Qv 10) (MOp.not (Qn 9)),Qa (Qv 2) (Qd (Qn 10))]
def f144_c2:MC:=.r0 f144_r2
def f144_c6:MC:=.seq f144_c0 (.seq f144_c1 (.seq f144_c2 .ret))
attribute [go_sem] f144_r0 f144_r1 f144_r2
theorem f144_k : KK QP 144 f144 [1] f144_c6 [(RV.t 2)] 11 := by refine ⟨func144,?_,?_,?_,?_⟩<;>kernel_rfl
theorem f144_ok : callable QP 144 = true := by kernel_rfl
theorem f144_in (h : GI QP gp [(RV.t 2)] res 11 f144_c6 args) : Does QP gp 144 args res := f144_k.i f144_ok h
def f145_r0:List MO:=[Qa (Qv 1) (MOp.ibox (Qn 0)),Qa (Qv 2) (Qd (Qo (Qp (Qq (Qs false)))))]
def f145_c0:MC:=.r0 f145_r0
def f145_r1:List MO:=[Qa (Qv 3) (Qd (Qo (Qp (Qq (D.fn (Go.Fn.func 157) [])))))]
def f145_c1:MC:=.r0 f145_r1
def f145_r2:List MO:=[Qa (Qv 4) (Qg 0 (Qn 1)),Qa (Qv 5) (Qg 4 (Qn 4)),Qa (Qv 6) (Qf 1 false (Qn 5)),Qa (Qv 7) (Qd (Qn 3)),Qa (Qv 8) (Qh 158 [(Qn 6),(Qn 7)]),Qa (Qv 9) (MOp.not (Qn 8)),Qa (Qv 10) (Qd (Qn 9)),Qb 10 true (Qv 11),Qa (Qv 11) (Qg 0 (Qn 1)),Qb 10 true (Qv 12),Qa (Qv 12) (Qg 4 (Qn 11)),Qb 10 true (Qv 13),Qa (Qv 13) (Qf 1 false (Qn 12)),Qb 10 true (Qv 14),Qa (Qv 14) (Qh 159 [(Qn 13)]),Qb 10 true (Qv 15),Qa (Qv 15) (MOp.not (Qn 14)),Qa (Qv 16) (Qm (Qn 10) (Qn 15) (Qo (Qp (Qq (Qs false))))),Qa (Qv 2) (Qd (Qn 16))]
def f145_c2:MC:=.r0 f145_r2
def f145_c6:MC:=.seq f145_c0 (.seq f145_c1 (.seq f145_c2 .ret))
attribute [go_sem] f145_r0 f145_r1 f145_r2
theorem f145_k : KK QP 145 f145 [1] f145_c6 [(RV.t 2)] 17 := by refine ⟨func145,?_,?_,?_,?_⟩<;>kernel_rfl
theorem f145_ok : callable QP 145 = true := by kernel_rfl
theorem f145_in (h : GI QP gp [(RV.t 2)] res 17 f145_c6 args) : Does QP gp 145 args res := f145_k.i f145_ok h
def f147_r0:List MO:=[Qa (Qv 2) (Qd (Qo (Qp (Qq (Qs false)))))]
def f147_c0:MC:=.r0 f147_r0
def f147_r1:List MO:=[Qa (Qv 7) (Qd (Qn 0)),Qa (Qv 8) (MOp.rng (Qn 7))]
def f147_c1:MC:=.r0 f147_r1
def f147_r2:List MO:=[Qa (Qv 9) (MOp.nxt (Qn 8)),Qa (Qv 10) (Qi (Qn 9) 0)]
def f147_c2:MC:=.r0 f147_r2
def f147_r6:List MO:=[Qa (Qv 11) (Qi (Qn 9) 1),Qa (Qv 12) (Qi (Qn 9) 2),Qa (Qv 3) (Qd (Qn 11)),Qa (Qv 4) (Qd (Qn 12))]
def f147_c6:MC:=.r0 f147_r6
def f147_r7:List MO:=[Qa (Qv 14) (Qd (Qn 0)),Qa (Qv 15) (Qd (Qn 3)),Qa (Qv 16) (MOp.slcS (Qn 14) (Qv (Qn 15)) none),Qa (Qv 17) (Qh 161 [(Qn 16)]),Qa (Qv 13) (Qd (Qn 17)),Qa (Qv 18) (Qi (Qn 13) 0),Qa (Qv 19) (Qi (Qn 13) 1),Qa (Qv 5) (Qd (Qn 18)),Qa (Qv 6) (Qd (Qn 19))]
def f147_c7:MC:=.r0 f147_r7
def f147_r8:List MO:=[Qa (Qv 20) (Qd (Qn 4)),Qa (Qv 21) (Qe Qt Go.BinOp.eql (Qn 20) (Qo (Qp (Qq (Qr Go.IntKind.i32 65533))))),Qa (Qv 22) (Qd (Qn 21)),Qb 22 true (Qv 23),Qa (Qv 23) (Qd (Qn 6)),Qb 22 true (Qv 24),Qa (Qv 24) (Qe Qt Go.BinOp.eql (Qn 23) (Qo (Qp (Qq (Qr Qu 1))))),Qa (Qv 25) (Qm (Qn 22) (Qn 24) (Qo (Qp (Qq (Qs false)))))]
def f147_c8:MC:=.r0 f147_r8
def f147_r9:List MO:=[Qa (Qv 2) (Qd (Qo (Qp (Qq (Qs false)))))]
def f147_c9:MC:=.r0 f147_r9
def f147_c16:MC:=.seq f147_c6 (.seq f147_c7 (.seq f147_c8 (.cond (Qn 25) (.seq f147_c9 .ret) .skip)))
def f147_r23:List MO:=[Qa (Qv 2) (Qd (Qo (Qp (Qq (Qs true)))))]
def f147_c23:MC:=.r0 f147_r23
def f147_c26:MC:=.seq (.seq f147_c1 (.blk 0 (.loop (.seq f147_c2 (.seq (.cond (Qn 10) .skip (MC.exit 0)) (.blk 1 f147_c16)))))) (.seq f147_c23 .ret)
def f147_c27:MC:=.seq f147_c0 f147_c26
attribute [go_sem] f147_r0 f147_r1 f147_r2 f147_r6 f147_r7 f147_r8 f147_r9 f147_r23
theorem f147_k : KK QP 147 f147 [] f147_c27 [(RV.t 2)] 26 := by refine ⟨func147,?_,?_,?_,?_⟩<;>kernel_rfl
theorem f147_ok : callable QP 147 = true := by kernel_rfl
theorem f147_in (h : GI QP gp [(RV.t 2)] res 26 f147_c27 args) : Does QP gp 147 args res := f147_k.i f147_ok h
def f154_r0:List MO:=[Qa (Qv 4) (Qd (Qo (Qp (Qq (Qs false)))))]
def f154_c0:MC:=.r0 f154_r0
def f154_r1:List MO:=[Qa (Qv 5) (Qd (Qn 0)),Qa (Qv 6) (Qd (Qn 1)),Qa (Qv 7) (Qh 173 [(Qn 5),(Qn 6)]),Qa (Qv 8) (Qe Qt Go.BinOp.geq (Qn 7) (Qo (Qp (Qq (Qr Qu 0))))),Qa (Qv 4) (Qd (Qn 8))]
def f154_c1:MC:=.r0 f154_r1
def f154_c4:MC:=.seq f154_c0 (.seq f154_c1 .ret)
attribute [go_sem] f154_r0 f154_r1
theorem f154_k : KK QP 154 f154 [] f154_c4 [(RV.t 4)] 9 := by refine ⟨func154,?_,?_,?_,?_⟩<;>kernel_rfl
theorem f154_ok : callable QP 154 = true := by kernel_rfl
theorem f154_in (h : GI QP gp [(RV.t 4)] res 9 f154_c4 args) : Does QP gp 154 args res := f154_k.i f154_ok h
def f155_r0:List MO:=[Qa (Qv 3) (Qd (Qo (Qp (Qq (Qs false)))))]
def f155_c0:MC:=.r0 f155_r0
def f155_r1:List MO:=[Qa (Qv 4) (Qd (Qn 0)),Qa (Qv 5) (Qe Qt Go.BinOp.lss (Qn 4) (Qo (Qp (Qq (Qr Qu 0))))),Qa (Qv 6) (Qd (Qn 5)),Qb 6 false (Qv 7),Qa (Qv 7) (Qd (Qn 0)),Qb 6 false (Qv 8),Qa (Qv 8) (Qg 6 (Qn 1)),Qb 6 false (Qv 9),Qa (Qv 9) (Qf 1 false (Qn 8)),Qb 6 false (Qv 10),Qa (Qv 10) (Qe Qt Go.BinOp.geq (Qn 7) (Qn 9)),Qa (Qv 11) (Qm (Qn 6) (Qo (Qp (Qq (Qs true)))) (Qn 10)),Qa (Qv 3) (Qd (Qn 11))]
def f155_c1:MC:=.r0 f155_r1
def f155_c4:MC:=.seq f155_c0 (.seq f155_c1 .ret)
attribute [go_sem] f155_r0 f155_r1
theorem f155_k : KK QP 155 f155 [] f155_c4 [(RV.t 3)] 12 := by refine ⟨func155,?_,?_,?_,?_⟩<;>kernel_rfl
theorem f155_ok : callable QP 155 = true := by kernel_rfl
theorem f155_in (h : GI QP gp [(RV.t 3)] res 12 f155_c4 args) : Does QP gp 155 args res := f155_k.i f155_ok h
def f156_r0:List MO:=[Qa (Qv 4) (Qd (Qo (Qp (Qq (Qs false)))))]
def f156_c0:MC:=.r0 f156_r0
def f156_r1:List MO:=[Qa (Qv 5) (Qd (Qn 0)),Qa (Qv 6) (Qd (Qn 1)),Qa (Qv 7) (Qh 174 [(Qn 5),(Qn 6)]),Qa (Qv 8) (Qe Qt Go.BinOp.geq (Qn 7) (Qo (Qp (Qq (Qr Qu 0))))),Qa (Qv 4) (Qd (Qn 8))]
def f156_c1:MC:=.r0 f156_r1
def f156_c4:MC:=.seq f156_c0 (.seq f156_c1 .ret)
attribute [go_sem] f156_r0 f156_r1
theorem f156_k : KK QP 156 f156 [] f156_c4 [(RV.t 4)] 9 := by refine ⟨func156,?_,?_,?_,?_⟩<;>kernel_rfl
theorem f156_ok : callable QP 156 = true := by kernel_rfl
theorem f156_in (h : GI QP gp [(RV.t 4)] res 9 f156_c4 args) : Does QP gp 156 args res := f156_k.i f156_ok h
def f157_r0:List MO:=[Qa (Qv 1) (MOp.ibox (Qn 0)),Qa (Qv 2) (Qd (Qo (Qp (Qq (Qs false)))))]
def f157_c0:MC:=.r0 f157_r0
def f157_r1:List MO:=[Qa (Qv 3) (Qf 3 true (Qn 1)),Qa (Qv 4) (Qh 127 [(Qn 3)]),Qa (Qv 5) (MOp.not (Qn 4)),Qa (Qv 2) (Qd (Qn 5))]
def f157_c1:MC:=.r0 f157_r1
def f157_c4:MC:=.seq f157_c0 (.seq f157_c1 .ret)
attribute [go_sem] f157_r0 f157_r1
theorem f157_k : KK QP 157 f157 [1] f157_c4 [(RV.t 2)] 6 := by refine ⟨func157,?_,?_,?_,?_⟩<;>kernel_rfl
theorem f157_ok : callable QP 157 = true := by kernel_rfl
theorem f157_in (h : GI QP gp [(RV.t 2)] res 6 f157_c4 args) : Does QP gp 157 args res := f157_k.i f157_ok h
def f158_r0:List MO:=[Qa (Qv 4) (Qd (Qo (Qp (Qq (Qs false)))))]
def f158_c0:MC:=.r0 f158_r0
def f158_r1:List MO:=[Qa (Qv 5) (Qd (Qn 0)),Qa (Qv 6) (Qd (Qn 1)),Qa (Qv 7) (Qh 175 [(Qn 5),(Qn 6)]),Qa (Qv 8) (Qe Qt Go.BinOp.geq (Qn 7) (Qo (Qp (Qq (Qr Qu 0))))),Qa (Qv 4) (Qd (Qn 8))]
def f158_c1:MC:=.r0 f158_r1
def f158_c4:MC:=.seq f158_c0 (.seq f158_c1 .ret)
attribute [go_sem] f158_r0 f158_r1
theorem f158_k : KK QP 158 f158 [] f158_c4 [(RV.t 4)] 9 := by refine ⟨func158,?_,?_,?_,?_⟩<;>kernel_rfl
theorem f158_ok : callable QP 158 = true := by kernel_rfl
theorem f158_in (h : GI QP gp [(RV.t 4)] res 9 f158_c4 args) : Does QP gp 158 args res := f158_k.i f158_ok h
def f159_r0:List MO:=[Qa (Qv 2) (Qd (Qo (Qp (Qq (Qs false)))))]
def f159_c0:MC:=.r0 f159_r0
def f159_r1:List MO:=[Qa (Qv 3) (MOp.alloc [(Qr Qu 0)]),Qa none (Ql 1 (Qn 3) (Qo (Qp (Qq (Qr Qu 0)))))]
def f159_c1:MC:=.r0 f159_r1
def f159_r2:List MO:=[Qa (Qv 4) (Qd (Qn 0)),Qa (Qv 5) (Qh 176 [(Qn 4)])]
def f159_c2:MC:=.r0 f159_r2
def f159_r4:List MO:=[Qa (Qv 7) (Qf 1 false (Qn 3)),Qa (Qv 8) (Qe Qt Go.BinOp.add (Qn 7) (Qo (Qp (Qq (Qr Qu 1))))),Qa none (Ql 1 (Qn 3) (Qn 8))]
def f159_c4:MC:=.r0 f159_r4
def f159_c6:MC:=.rf (Qn 5) [6] .skip (.blk 1 f159_c4)
def f159_r9:List MO:=[Qa (Qv 9) (Qf 1 false (Qn 3)),Qa (Qv 10) (Qd (Qn 0)),Qa (Qv 11) (Qk Qt (Qn 10)),Qa (Qv 12) (Qe Qt Go.BinOp.lss (Qn 9) (Qn 11)),Qa (Qv 2) (Qd (Qn 12))]
def f159_c9:MC:=.r0 f159_r9
def f159_c13:MC:=.seq f159_c1 (.seq (.seq f159_c2 (.blk 0 f159_c6)) (.seq f159_c9 .ret))
def f159_c14:MC:=.seq f159_c0 f159_c13
attribute [go_sem] f159_r0 f159_r1 f159_r2 f159_r4 f159_r9
theorem f159_k : KK QP 159 f159 [] f159_c14 [(RV.t 2)] 13 := by refine ⟨func159,?_,?_,?_,?_⟩<;>kernel_rfl
theorem f159_ok : callable QP 159 = true := by kernel_rfl
theorem f159_in (h : GI QP gp [(RV.t 2)] res 13 f159_c14 args) : Does QP gp 159 args res := f159_k.i f159_ok h
def f173_r0:List MO:=[Qa (Qv 4) (Qd (Qo (Qp (Qq (Qr Qu 0)))))]
def f173_c0:MC:=.r0 f173_r0
def f173_r1:List MO:=[Qa (Qv 6) (Qd (Qn 0)),Qa (Qv 7) (Qk Qt (Qn 6)),Qa (Qv 8) (Qd (Qo (Qp (Qq (Qr Qu 0)))))]
def f173_c1:MC:=.r0 f173_r1
def f173_r2:List MO:=[Qa (Qv 9) (Qe Qt Go.BinOp.lss (Qn 8) (Qn 7))]
def f173_c2:MC:=.r0 f173_r2
def f173_r6:List MO:=[Qa (Qv 10) (Qd (Qn 8)),Qa (Qv 5) (Qd (Qn 10))]
def f173_c6:MC:=.r0 f173_r6
def f173_r7:List MO:=[Qa (Qv 11) (Qd (Qn 1)),Qa (Qv 12) (Qd (Qn 0)),Qa (Qv 13) (Qd (Qn 5)),Qa (Qv 14) (Qj 1 (Qn 12) (Qn 13)),Qa (Qv 15) (Qf 1 false (Qn 14)),Qa (Qv 16) (Qe Leaf.b Go.BinOp.eql (Qn 11) (Qn 15))]
def f173_c7:MC:=.r0 f173_r7
def f173_r8:List MO:=[Qa (Qv 17) (Qd (Qn 5)),Qa (Qv 4) (Qd (Qn 17))]
def f173_c8:MC:=.r0 f173_r8
def f173_r16:List MO:=[Qa (Qv 18) (Qe Qt Go.BinOp.add (Qn 8) (Qo (Qp (Qq (Qr Qu 1))))),Qa (Qv 8) (Qd (Qn 18))]
def f173_c16:MC:=.r0 f173_r16
def f173_c17:MC:=.seq (.blk 1 (.seq f173_c6 (.seq f173_c7 (.cond (Qn 16) (.seq f173_c8 .ret) .skip)))) f173_c16
def f173_r23:List MO:=[Qa (Qv 4) (Qd (Qo (Qp (Qq (Qr Qu (-1))))))]
def f173_c23:MC:=.r0 f173_r23
def f173_c26:MC:=.seq (.seq f173_c1 (.blk 0 (.loop (.seq f173_c2 (.seq (.cond (Qn 9) .skip (MC.exit 0)) f173_c17))))) (.seq f173_c23 .ret)
def f173_c27:MC:=.seq f173_c0 f173_c26
attribute [go_sem] f173_r0 f173_r1 f173_r2 f173_r6 f173_r7 f173_r8 f173_r16 f173_r23
theorem f173_k : KK QP 173 f173 [] f173_c27 [(RV.t 4)] 19 := by refine ⟨func173,?_,?_,?_,?_⟩<;>kernel_rfl
theorem f173_ok : callable QP 173 = true := by kernel_rfl
theorem f173_in (h : GI QP gp [(RV.t 4)] res 19 f173_c27 args) : Does QP gp 173 args res := f173_k.i f173_ok h
def f174_r0:List MO:=[Qa (Qv 4) (Qd (Qo (Qp (Qq (Qr Qu 0)))))]
def f174_c0:MC:=.r0 f174_r0
def f174_r1:List MO:=[Qa (Qv 6) (Qd (Qn 0)),Qa (Qv 7) (Qk Qt (Qn 6)),Qa (Qv 8) (Qd (Qo (Qp (Qq (Qr Qu 0)))))]
def f174_c1:MC:=.r0 f174_r1
def f174_r2:List MO:=[Qa (Qv 9) (Qe Qt Go.BinOp.lss (Qn 8) (Qn 7))]
def f174_c2:MC:=.r0 f174_r2
def f174_r6:List MO:=[Qa (Qv 10) (Qd (Qn 8)),Qa (Qv 5) (Qd (Qn 10))]
def f174_c6:MC:=.r0 f174_r6
def f174_r7:List MO:=[Qa (Qv 11) (Qd (Qn 1)),Qa (Qv 12) (Qd (Qn 0)),Qa (Qv 13) (Qd (Qn 5)),Qa (Qv 14) (Qj 1 (Qn 12) (Qn 13)),Qa (Qv 15) (Qf 1 false (Qn 14)),Qa (Qv 16) (MOp.callv (Qn 11) [(Qn 15)])]
def f174_c7:MC:=.r0 f174_r7
def f174_r8:List MO:=[Qa (Qv 17) (Qd (Qn 5)),Qa (Qv 4) (Qd (Qn 17))]
def f174_c8:MC:=.r0 f174_r8
def f174_r16:List MO:=[Qa (Qv 18) (Qe Qt Go.BinOp.add (Qn 8) (Qo (Qp (Qq (Qr Qu 1))))),Qa (Qv 8) (Qd (Qn 18))]
def f174_c16:MC:=.r0 f174_r16
def f174_c17:MC:=.seq (.blk 1 (.seq f174_c6 (.seq f174_c7 (.cond (Qn 16) (.seq f174_c8 .ret) .skip)))) f174_c16
def f174_r23:List MO:=[Qa (Qv 4) (Qd (Qo (Qp (Qq (Qr Qu (-1))))))]
def f174_c23:MC:=.r0 f174_r23
def f174_c26:MC:=.seq (.seq f174_c1 (.blk 0 (.loop (.seq f174_c2 (.seq (.cond (Qn 9) .skip (MC.exit 0)) f174_c17))))) (.seq f174_c23 .ret)
def f174_c27:MC:=.seq f174_c0 f174_c26
attribute [go_sem] f174_r0 f174_r1 f174_r2 f174_r6 f174_r7 f174_r8 f174_r16 f174_r23
theorem f174_k : KK QP 174 f174 [] f174_c27 [(RV.t 4)] 19 := by refine ⟨func174,?_,?_,?_,?_⟩<;>kernel_rfl
theorem f174_ok : callable QP 174 = true := by kernel_rfl
theorem f174_in (h : GI QP gp [(RV.t 4)] res 19 f174_c27 args) : Does QP gp 174 args res := f174_k.i f174_ok h
def f175_r0:List MO:=[Qa (Qv 4) (Qd (Qo (Qp (Qq (Qr Qu 0)))))]
def f175_c0:MC:=.r0 f175_r0
def f175_r1:List MO:=[Qa (Qv 6) (Qd (Qn 0)),Qa (Qv 7) (Qk Qt (Qn 6)),Qa (Qv 8) (Qd (Qo (Qp (Qq (Qr Qu 0)))))]
def f175_c1:MC:=.r0 f175_r1
def f175_r2:List MO:=[Qa (Qv 9) (Qe Qt Go.BinOp.lss (Qn 8) (Qn 7))]
def f175_c2:MC:=.r0 f175_r2
def f175_r6:List MO:=[Qa (Qv 10) (Qd (Qn 8)),Qa (Qv 5) (Qd (Qn 10))]
def f175_c6:MC:=.r0 f175_r6
def f175_r7:List MO:=[Qa (Qv 11) (Qd (Qn 1)),Qa (Qv 12) (Qd (Qn 0)),Qa (Qv 13) (Qd (Qn 5)),Qa (Qv 14) (Qj 3 (Qn 12) (Qn 13)),Qa (Qv 15) (Qf 3 true (Qn 14)),Qa (Qv 16) (MOp.callv (Qn 11) [(Qn 15)])]
def f175_c7:MC:=.r0 f175_r7
def f175_r8:List MO:=[Qa (Qv 17) (Qd (Qn 5)),Qa (Qv 4) (Qd (Qn 17))]
def f175_c8:MC:=.r0 f175_r8
def f175_r16:List MO:=[Qa (Qv 18) (Qe Qt Go.BinOp.add (Qn 8) (Qo (Qp (Qq (Qr Qu 1))))),Qa (Qv 8) (Qd (Qn 18))]
def f175_c16:MC:=.r0 f175_r16
def f175_c17:MC:=.seq (.blk 1 (.seq f175_c6 (.seq f175_c7 (.cond (Qn 16) (.seq f175_c8 .ret) .skip)))) f175_c16
def f175_r23:List MO:=[Qa (Qv 4) (Qd (Qo (Qp (Qq (Qr Qu (-1))))))]
def f175_c23:MC:=.r0 f175_r23
def f175_c26:MC:=.seq (.seq f175_c1 (.blk 0 (.loop (.seq f175_c2 (.seq (.cond (Qn 9) .skip (MC.exit 0)) f175_c17))))) (.seq f175_c23 .ret)
def f175_c27:MC:=.seq f175_c0 f175_c26
attribute [go_sem] f175_r0 f175_r1 f175_r2 f175_r6 f175_r7 f175_r8 f175_r16 f175_r23
theorem f175_k : KK QP 175 f175 [] f175_c27 [(RV.t 4)] 19 := by refine ⟨func175,?_,?_,?_,?_⟩<;>kernel_rfl
theorem f175_ok : callable QP 175 = true := by kernel_rfl
theorem f175_in (h : GI QP gp [(RV.t 4)] res 19 f175_c27 args) : Does QP gp 175 args res := f175_k.i f175_ok h
def f176_r0:List MO:=[Qa (Qv 1) (MOp.ibox (Qn 0)),Qa (Qv 2) (Qd (Qo (Qp (Qq D.nilF))))]
def f176_c0:MC:=.r0 f176_r0
def f176_r1:List MO:=[Qa (Qv 3) (MOp.mkF (Go.Fn.func 186) [(Qn 1)]),Qa (Qv 2) (Qd (Qn 3))]
def f176_c1:MC:=.r0 f176_r1
def f176_c4:MC:=.seq f176_c0 (.seq f176_c1 .ret)
attribute [go_sem] f176_r0 f176_r1
theorem f176_k : KK QP 176 f176 [1] f176_c4 [(RV.t 2)] 4 := by refine ⟨func176,?_,?_,?_,?_⟩<;>kernel_rfl
theorem f176_ok : callable QP 176 = true := by kernel_rfl
theorem f176_in (h : GI QP gp [(RV.t 2)] res 4 f176_c4 args) : Does QP gp 176 args res := f176_k.i f176_ok h
def f186_r0:List MO:=[Qa (Qv 6) MOp.mkM,Qa (Qv 3) (Qd (Qn 6))]
def f186_c0:MC:=.r0 f186_r0
def f186_r2:List MO:=[Qa (Qv 7) (Qf 1 false (Qn 1)),Qa (Qv 8) (Qk Qt (Qn 7)),Qa (Qv 9) (Qd (Qo (Qp (Qq (Qr Qu 0)))))]
def f186_c2:MC:=.r0 f186_r2
def f186_r3:List MO:=[Qa (Qv 10) (Qe Qt Go.BinOp.lss (Qn 9) (Qn 8))]
def f186_c3:MC:=.r0 f186_r3
def f186_r7:List MO:=[Qa (Qv 11) (Qj 3 (Qn 7) (Qn 9)),Qa (Qv 12) (Qf 3 true (Qn 11)),Qa (Qv 5) (MOp.alloc [(Qr Qu 0),(Qr Qu 0),(D.str (ByteArray.mk #[]))]),Qa none (Ql 3 (Qn 5) (Qn 12))]
def f186_c7:MC:=.r0 f186_r7
def f186_r8:List MO:=[Qa (Qv 13) (Qd (Qn 3)),Qa (Qv 14) (Qf 3 true (Qn 5)),Qa (Qv 15) (MOp.lkp false (Qp (Qq (Qs false))) true [Qt,Qt,Leaf.s] (Qn 13) (Qn 14)),Qa (Qv 16) (Qd (Qn 15)),Qb 16 false (Qv 17),Qa (Qv 17) (Qd (Qn 0)),Qb 16 false (Qv 18),Qa (Qv 18) (Qf 3 true (Qn 5)),Qb 16 false (Qv 19),Qa (Qv 19) (MOp.callv (Qn 17) [(Qn 18)]),Qb 16 false (Qv 20),Qa (Qv 20) (MOp.not (Qn 19)),Qa (Qv 21) (Qm (Qn 16) (Qo (Qp (Qq (Qs true)))) (Qn 20))]
def f186_c8:MC:=.r0 f186_r8
def f186_r13:List MO:=[Qa (Qv 22) (Qd (Qn 3)),Qa (Qv 23) (Qf 3 true (Qn 5)),Qa none (MOp.mupd true [Qt,Qt,Leaf.s] (Qn 22) (Qn 23) (Qo (Qp (Qq (Qs true)))))]
def f186_c13:MC:=.r0 f186_r13
def f186_r17:List MO:=[Qa (Qv 24) (Qe Qt Go.BinOp.add (Qn 9) (Qo (Qp (Qq (Qr Qu 1))))),Qa (Qv 9) (Qd (Qn 24))]
def f186_c17:MC:=.r0 f186_r17
def f186_c18:MC:=.seq (.blk 1 (.seq f186_c7 (.seq (.seq f186_c8 (.cond (Qn 21) (MC.exit 0) .skip)) f186_c13))) f186_c17
def f186_c25:MC:=.seq f186_c0 (.seq .skip (.seq f186_c2 (.blk 0 (.loop (.seq f186_c3 (.seq (.cond (Qn 10) .skip (MC.exit 0)) f186_c18))))))
def f186_c26:MC:=.scope f186_c25
attribute [go_sem] f186_r0 f186_r2 f186_r3 f186_r7 f186_r8 f186_r13 f186_r17
theorem f186_k : KK QP 186 f186 [] f186_c26 [] 25 := by refine ⟨func186,?_,?_,?_,?_⟩<;>kernel_rfl
theorem f186_ok : callable QP 186 = true := by kernel_rfl
theorem f186_tri (h : GT QP gp [] pre R 25 f186_c26 args) : Tri QP gp 186 args pre R := f186_k.t h
end Go.Fw.L07
