/- Small codes. -/
import Derived.Test.YtbicdabccidliaaGreatDoorFd
import Derived.Test.YtbicdabccidliaaGreatDoorProg
set_option linter.all false
namespace Go.Fw.L07
open Go Go.Fw
open Go.Proofs.Tryz renaming prog -> QP
open Go.Proofs.Tryz (f100 f109 f110 f111 f112 f120 f121 f122 f123 f131 f138 f140 f141 f145 f146 f147 f151 f157 f158 f159 f160 f161 f162 f177 f178 f179 f180 f190 f24 f25 f37 f38 f41 f49 f54 f55 f68 f69 f70 f71 f72 f73 f74 f78 f86 f87 f88 f89 f90 f96 f97 func100 func109 func110 func111 func112 func120 func121 func122 func123 func131 func138 func140 func141 func145 func146 func147 func151 func157 func158 func159 func160 func161 func162 func177 func178 func179 func180 func190 func24 func25 func37 func38 func41 func49 func54 func55 func68 func69 func70 func71 func72 func73 func74 func78 func86 func87 func88 func89 func90 func96 func97)
open Go.Fw.MO renaming op -> Qa,chk -> Qb,opx -> Qc
open Go.Fw.MOp renaming mv -> Qd,bin -> Qe,load -> Qf,fad -> Qg,call -> Qh,ext -> Qi,iad -> Qj,len -> Qk,store -> Ql,pick -> Qm
open Go.Fw.Opd renaming t -> Qn,c -> Qo
open Go.Fw.V renaming one -> Qp
open Go.Fw.A renaming d -> Qq
open Go.Fw.D renaming int -> Qr,bool -> Qs
open Go.Fw.Leaf renaming i -> Qt
open Go.IntKind renaming i64 -> Qu
open Option renaming some -> Qv
variable {gp : Heap} {args : List V} {res : V} {pre : List Ch} {R : V -> List Ch -> Prop}
def f24_r0:List MO:=[Qa (Qv 4) (Qd (Qo (Qp (Qq (Qs false)))))]
def f24_c0:MC:=.r0 f24_r0
def f24_r1:List MO:=[Qa (Qv 6) (Qd (Qn 0)),Qa (Qv 7) (Qk Qt (Qn 6)),Qa (Qv 8) (Qd (Qn 1)),Qa (Qv 9) (Qk Qt (Qn 8)),Qa (Qv 10) (Qe Qt Go.BinOp.neq (Qn 7) (Qn 9))]
def f24_c1:MC:=.r0 f24_r1
def f24_r2:List MO:=[Qa (Qv 4) (Qd (Qo (Qp (Qq (Qs false)))))]
def f24_c2:MC:=.r0 f24_r2
def f24_r8:List MO:=[Qa (Qv 5) (Qd (Qo (Qp (Qq (Qr Qu 0)))))]
def f24_c8:MC:=.r0 f24_r8
def f24_r9:List MO:=[Qa (Qv 11) (Qd (Qn 5)),Qa (Qv 12) (Qd (Qn 0)),Qa (Qv 13) (Qk Qt (Qn 12)),Qa (Qv 14) (Qe Qt Go.BinOp.lss (Qn 11) (Qn 13))]
def f24_c9:MC:=.r0 f24_r9
def f24_r14:List MO:=[Qa (Qv 17) (Qd (Qn 0)),Qa (Qv 18) (Qd (Qn 5)),Qa (Qv 19) (Qj 1 (Qn 17) (Qn 18)),Qa (Qv 20) (Qf 1 false (Qn 19)),Qa (Qv 21) (Qd (Qn 1)),Qa (Qv 22) (Qd (Qn 5)),Qa (Qv 23) (Qj 1 (Qn 21) (Qn 22)),Qa (Qv 24) (Qf 1 false (Qn 23)),Qa (Qv 25) (Qe Qt Go.BinOp.neq (Qn 20) (Qn 24))]
def f24_c14:MC:=.reg true f24_r14
def f24_r15:List MO:=[Qa (Qv 4) (Qd (Qo (Qp (Qq (Qs false)))))]
def f24_c15:MC:=.r0 f24_r15
def f24_r22:List MO:=[Qa (Qv 15) (Qd (Qn 5)),Qa (Qv 16) (Qe Qt Go.BinOp.add (Qn 15) (Qo (Qp (Qq (Qr Qu 1))))),Qa (Qv 5) (Qd (Qn 16))]
def f24_c22:MC:=.r0 f24_r22
def f24_c24:MC:=.seq (.seq f24_c9 (.cond (Qn 14) .skip (MC.exit 0))) (.seq (.blk 1 (.seq f24_c14 (.cond (Qn 25) (.seq f24_c15 .ret) .skip))) f24_c22)
def f24_r28:List MO:=[Qa (Qv 4) (Qd (Qo (Qp (Qq (Qs true)))))]
def f24_c28:MC:=.r0 f24_r28
def f24_c32:MC:=.seq (.seq f24_c1 (.cond (Qn 10) (.seq f24_c2 .ret) .skip)) (.seq (.seq f24_c8 (.blk 0 (.loop f24_c24))) (.seq f24_c28 .ret))
def f24_c33:MC:=.seq f24_c0 f24_c32
attribute [go_sem] f24_r0 f24_r1 f24_r2 f24_r8 f24_r9 f24_r14 f24_r15 f24_r22 f24_r28
theorem f24_k : KK QP 24 f24 [] f24_c33 [(RV.t 4)] 26 := ⟨func24,by kernel_rfl,by kernel_rfl,by kernel_rfl,by kernel_rfl⟩
theorem f24_ok : callable QP 24 = true := by kernel_rfl
theorem f24_in (h : GI QP gp [(RV.t 4)] res 26 f24_c33 args) : Does QP gp 24 args res := f24_k.i f24_ok h
def f25_r0:List MO:=[Qa (Qv 2) (MOp.ibox (Qn 0)),Qa (Qv 4) (Qd (Qo (Qp A.nil))),Qa (Qv 5) (Qd (Qo (Qp (Qq (Qr Qu 0)))))]
def f25_c0:MC:=.r0 f25_r0
def f25_r1:List MO:=[Qa (Qv 12) (Qf 2 true (Qn 2)),Qa (Qv 13) (Qd (Qn 1)),Qa (Qv 14) (Qh 54 [(Qn 12),(Qn 13)]),Qa (Qv 11) (Qd (Qn 14)),Qa (Qv 15) (Qi (Qn 11) 0),Qa (Qv 16) (Qi (Qn 11) 1),Qa (Qv 6) (MOp.alloc [(Qr Qu 0),(Qr Qu 0),(Qr Qu 0),(D.str (ByteArray.mk #[])),(D.sl []),(D.sl []),(Qr Qu 0)]),Qa none (Ql 7 (Qn 6) (Qn 15)),Qa (Qv 7) (Qd (Qn 16))]
def f25_c1:MC:=.r0 f25_r1
def f25_r2:List MO:=[Qa (Qv 17) (Qd (Qn 7)),Qa (Qv 18) (Qe Qt Go.BinOp.eql (Qn 17) (Qo (Qp (Qq (Qr Qu 0))))),Qa (Qv 19) (Qd (Qn 18)),Qb 19 true (Qv 20),Qa (Qv 20) (Qg 0 (Qn 6)),Qb 19 true (Qv 21),Qa (Qv 21) (Qg 0 (Qn 20)),Qb 19 true (Qv 22),Qa (Qv 22) (Qf 1 false (Qn 21)),Qb 19 true (Qv 23),Qa (Qv 23) (Qe Qt Go.BinOp.eql (Qn 22) (Qo (Qp (Qq (Qr Qu 1))))),Qa (Qv 24) (Qm (Qn 19) (Qn 23) (Qo (Qp (Qq (Qs false)))))]
def f25_c2:MC:=.r0 f25_r2
def f25_r3:List MO:=[Qa (Qv 25) (Qg 0 (Qn 6)),Qa (Qv 26) (Qg 5 (Qn 25)),Qa (Qv 27) (Qf 1 false (Qn 26)),Qa (Qv 28) (Qh 49 [(Qn 27)]),Qa (Qv 29) (Qd (Qn 7)),Qa (Qv 4) (Qd (Qn 28)),Qa (Qv 5) (Qd (Qn 29))]
def f25_c3:MC:=.r0 f25_r3
def f25_r9:List MO:=[Qa (Qv 8) (Qd (Qo (Qp A.nil)))]
def f25_c9:MC:=.r0 f25_r9
def f25_r10:List MO:=[Qa (Qv 30) (Qf 7 true (Qn 6)),Qa (Qv 31) (Qh 55 [(Qn 30)]),Qa (Qv 32) (Qk Qt (Qn 31)),Qa (Qv 33) (Qd (Qo (Qp (Qq (Qr Qu 0)))))]
def f25_c10:MC:=.r0 f25_r10
def f25_r11:List MO:=[Qa (Qv 34) (Qe Qt Go.BinOp.lss (Qn 33) (Qn 32))]
def f25_c11:MC:=.r0 f25_r11
def f25_r15:List MO:=[Qa (Qv 35) (Qj 4 (Qn 31) (Qn 33)),Qa (Qv 36) (Qf 4 true (Qn 35)),Qa (Qv 10) (MOp.alloc [(Qr Qu 0),(Qr Qu 0),(D.str (ByteArray.mk #[])),(Qr Qu 0)]),Qa none (Ql 4 (Qn 10) (Qn 36))]
def f25_c15:MC:=.r0 f25_r15
def f25_r16:List MO:=[Qa (Qv 37) (Qd (Qn 8)),Qa (Qv 38) (Qg 3 (Qn 10)),Qa (Qv 39) (Qf 1 false (Qn 38)),Qa (Qv 40) (MOp.bslice 1 [(Qr Qu 0)] 1 [(0,(Qn 39))]),Qa (Qv 41) (MOp.app 3 1 8 (Qn 37) (Qn 40)),Qa (Qv 8) (Qd (Qn 41))]
def f25_c16:MC:=.r0 f25_r16
def f25_r19:List MO:=[Qa (Qv 42) (Qe Qt Go.BinOp.add (Qn 33) (Qo (Qp (Qq (Qr Qu 1))))),Qa (Qv 33) (Qd (Qn 42))]
def f25_c19:MC:=.r0 f25_r19
def f25_c22:MC:=.seq f25_c11 (.seq (.cond (Qn 34) .skip (MC.exit 0)) (.seq (.blk 1 (.seq f25_c15 f25_c16)) f25_c19))
def f25_r26:List MO:=[Qa (Qv 43) (Qd (Qn 8)),Qa (Qv 44) (Qd (Qn 7)),Qa (Qv 4) (Qd (Qn 43)),Qa (Qv 5) (Qd (Qn 44))]
def f25_c26:MC:=.r0 f25_r26
def f25_c30:MC:=.seq f25_c9 (.seq (.seq f25_c10 (.blk 0 (.loop f25_c22))) (.seq f25_c26 .ret))
def f25_c32:MC:=.seq f25_c1 (.seq (.seq f25_c2 (.cond (Qn 24) (.seq f25_c3 .ret) .skip)) f25_c30)
def f25_c33:MC:=.seq f25_c0 f25_c32
theorem f25_k : KK QP 25 f25 [2] f25_c33 [(RV.t 4),(RV.t 5)] 45 := ⟨func25,by kernel_rfl,by kernel_rfl,by kernel_rfl,by kernel_rfl⟩
theorem f25_ok : callable QP 25 = true := by kernel_rfl
theorem f25_in (h : GI QP gp [(RV.t 4),(RV.t 5)] res 45 f25_c33 args) : Does QP gp 25 args res := f25_k.i f25_ok h
theorem f25_tri (h : GT QP gp [(RV.t 4),(RV.t 5)] pre R 45 f25_c33 args) : Tri QP gp 25 args pre R := f25_k.t h
def f37_r0:List MO:=[Qa (Qv 1) (MOp.ibox (Qn 0)),Qa (Qv 2) (Qd (Qo (Qp (Qq (Qr Qu 0))))),Qa (Qv 3) (Qd (Qo (Qp (Qq (Qr Qu 0)))))]
def f37_c0:MC:=.r0 f37_r0
def f37_r1:List MO:=[Qa (Qv 4) (Qf 2 true (Qn 1)),Qa (Qv 5) (Qh 69 [(Qn 4)]),Qa (Qv 6) (Qh 68 [(Qn 5)]),Qa (Qv 7) (Qi (Qn 6) 0),Qa (Qv 8) (Qi (Qn 6) 1),Qa (Qv 2) (Qd (Qn 7)),Qa (Qv 3) (Qd (Qn 8))]
def f37_c1:MC:=.r0 f37_r1
def f37_c4:MC:=.seq f37_c0 (.seq f37_c1 .ret)
attribute [go_sem] f37_r0 f37_r1
theorem f37_k : KK QP 37 f37 [1] f37_c4 [(RV.t 2),(RV.t 3)] 9 := ⟨func37,by kernel_rfl,by kernel_rfl,by kernel_rfl,by kernel_rfl⟩
theorem f37_ok : callable QP 37 = true := by kernel_rfl
theorem f37_in (h : GI QP gp [(RV.t 2),(RV.t 3)] res 9 f37_c4 args) : Does QP gp 37 args res := f37_k.i f37_ok h
def f38_r0:List MO:=[Qa (Qv 2) (MOp.ibox (Qn 0)),Qa (Qv 3) (MOp.ibox (Qn 1)),Qa (Qv 4) (Qd (Qo (Qp (Qq (Qs false)))))]
def f38_c0:MC:=.r0 f38_r0
def f38_r1:List MO:=[Qa (Qv 5) (Qd (Qo (Qp (Qq (D.fn (Go.Fn.func 70) [])))))]
def f38_c1:MC:=.r0 f38_r1
def f38_r2:List MO:=[Qa (Qv 6) (Qg 0 (Qn 2)),Qa (Qv 7) (Qf 1 false (Qn 6)),Qa (Qv 8) (Qg 0 (Qn 3)),Qa (Qv 9) (Qf 1 false (Qn 8)),Qa (Qv 10) (Qe Qt Go.BinOp.eql (Qn 7) (Qn 9)),Qa (Qv 11) (Qd (Qn 10)),Qb 11 true (Qv 12),Qa (Qv 12) (Qg 1 (Qn 2)),Qb 11 true (Qv 13),Qa (Qv 13) (Qf 1 false (Qn 12)),Qb 11 true (Qv 14),Qa (Qv 14) (Qg 1 (Qn 3)),Qb 11 true (Qv 15),Qa (Qv 15) (Qf 1 false (Qn 14)),Qb 11 true (Qv 16),Qa (Qv 16) (Qd (Qn 5)),Qb 11 true (Qv 17),Qa (Qv 17) (Qh 73 [(Qn 13),(Qn 15),(Qn 16)]),Qa (Qv 18) (Qm (Qn 11) (Qn 17) (Qo (Qp (Qq (Qs false))))),Qa (Qv 4) (Qd (Qn 18))]
def f38_c2:MC:=.r0 f38_r2
def f38_c6:MC:=.seq f38_c0 (.seq f38_c1 (.seq f38_c2 .ret))
attribute [go_sem] f38_r0 f38_r1 f38_r2
theorem f38_k : KK QP 38 f38 [2,3] f38_c6 [(RV.t 4)] 19 := ⟨func38,by kernel_rfl,by kernel_rfl,by kernel_rfl,by kernel_rfl⟩
theorem f38_ok : callable QP 38 = true := by kernel_rfl
theorem f38_in (h : GI QP gp [(RV.t 4)] res 19 f38_c6 args) : Does QP gp 38 args res := f38_k.i f38_ok h
def f41_r0:List MO:=[Qa (Qv 1) (MOp.ibox (Qn 0)),Qa (Qv 2) (MOp.alloc [(Qr Qu 0),(D.sl [])])]
def f41_c0:MC:=.r0 f41_r0
def f41_r1:List MO:=[Qa (Qv 9) (Qg 0 (Qn 1)),Qa (Qv 10) (Qf 1 false (Qn 9)),Qa (Qv 11) (MOp.build [(Qr Qu 0),(D.sl [])] [(0,(1,(Qn 10)))]),Qa (Qv 3) (MOp.alloc [(Qr Qu 0),(D.sl [])]),Qa none (Ql 2 (Qn 3) (Qn 11))]
def f41_c1:MC:=.r0 f41_r1
def f41_r2:List MO:=[Qa (Qv 4) (Qd (Qo (Qp (Qq (Qr Qu 0)))))]
def f41_c2:MC:=.r0 f41_r2
def f41_r3:List MO:=[Qa (Qv 12) (Qd (Qn 4)),Qa (Qv 13) (Qg 1 (Qn 1)),Qa (Qv 14) (Qf 1 false (Qn 13)),Qa (Qv 15) (Qk Qt (Qn 14)),Qa (Qv 16) (Qe Qt Go.BinOp.lss (Qn 12) (Qn 15)),Qa (Qv 17) (Qd (Qn 16)),Qb 17 true (Qv 18),Qa (Qv 18) (Qd (Qn 4)),Qb 17 true (Qv 19),Qa (Qv 19) (Qe Qt Go.BinOp.lss (Qn 18) (Qo (Qp (Qq (Qr Qu 201))))),Qa (Qv 20) (Qm (Qn 17) (Qn 19) (Qo (Qp (Qq (Qs false)))))]
def f41_c3:MC:=.r0 f41_r3
def f41_r8:List MO:=[Qa (Qv 23) (Qg 1 (Qn 1)),Qa (Qv 24) (Qf 1 false (Qn 23)),Qa (Qv 25) (Qd (Qn 4)),Qa (Qv 26) (Qj 6 (Qn 24) (Qn 25)),Qa (Qv 27) (Qf 6 true (Qn 26)),Qa (Qv 5) (MOp.alloc [(Qr Qu 0),(Qr Qu 0),(Qr Qu 0),(D.str (ByteArray.mk #[])),(D.sl []),(D.sl [])]),Qa none (Ql 6 (Qn 5) (Qn 27))]
def f41_c8:MC:=.r0 f41_r8
def f41_r9:List MO:=[Qa (Qv 28) (Qg 0 (Qn 5)),Qa (Qv 29) (Qf 1 false (Qn 28)),Qa (Qv 30) (Qg 1 (Qn 5)),Qa (Qv 31) (Qf 3 true (Qn 30)),Qa (Qv 32) (Qh 78 [(Qn 31)]),Qa (Qv 33) (MOp.build [(Qr Qu 0),(Qr Qu 0),(Qr Qu 0),(D.str (ByteArray.mk #[])),(D.sl []),(D.sl [])] [(0,(1,(Qn 29))),(1,(3,(Qn 32)))]),Qa (Qv 6) (MOp.alloc [(Qr Qu 0),(Qr Qu 0),(Qr Qu 0),(D.str (ByteArray.mk #[])),(D.sl []),(D.sl [])]),Qa none (Ql 6 (Qn 6) (Qn 33))]
def f41_c9:MC:=.reg true f41_r9
def f41_r10:List MO:=[Qa (Qv 7) (Qd (Qo (Qp (Qq (Qr Qu 0)))))]
def f41_c10:MC:=.r0 f41_r10
def f41_r11:List MO:=[Qa (Qv 34) (Qd (Qn 7)),Qa (Qv 35) (Qg 4 (Qn 5)),Qa (Qv 36) (Qf 1 false (Qn 35)),Qa (Qv 37) (Qk Qt (Qn 36)),Qa (Qv 38) (Qe Qt Go.BinOp.lss (Qn 34) (Qn 37)),Qa (Qv 39) (Qd (Qn 38)),Qb 39 true (Qv 40),Qa (Qv 40) (Qd (Qn 7)),Qb 39 true (Qv 41),Qa (Qv 41) (Qe Qt Go.BinOp.lss (Qn 40) (Qo (Qp (Qq (Qr Qu 12))))),Qa (Qv 42) (Qm (Qn 39) (Qn 41) (Qo (Qp (Qq (Qs false)))))]
def f41_c11:MC:=.r0 f41_r11
def f41_r16:List MO:=[Qa (Qv 45) (Qg 4 (Qn 6)),Qa (Qv 46) (Qf 1 false (Qn 45)),Qa (Qv 47) (Qg 4 (Qn 5)),Qa (Qv 48) (Qf 1 false (Qn 47)),Qa (Qv 49) (Qd (Qn 7)),Qa (Qv 50) (Qj 3 (Qn 48) (Qn 49)),Qa (Qv 51) (Qf 3 true (Qn 50)),Qa (Qv 52) (Qh 78 [(Qn 51)]),Qa (Qv 53) (MOp.bslice 3 [(Qr Qu 0),(Qr Qu 0),(D.str (ByteArray.mk #[]))] 1 [(0,(Qn 52))]),Qa (Qv 54) (MOp.app 41 3 32 (Qn 46) (Qn 53)),Qa (Qv 55) (Qg 4 (Qn 6)),Qa none (Ql 1 (Qn 55) (Qn 54))]
def f41_c16:MC:=.reg true f41_r16
def f41_r18:List MO:=[Qa (Qv 43) (Qd (Qn 7)),Qa (Qv 44) (Qe Qt Go.BinOp.add (Qn 43) (Qo (Qp (Qq (Qr Qu 1))))),Qa (Qv 7) (Qd (Qn 44))]
def f41_c18:MC:=.r0 f41_r18
def f41_c23:MC:=.seq f41_c10 (.blk 2 (.loop (.seq (.seq f41_c11 (.cond (Qn 42) .skip (MC.exit 2))) (.seq (.blk 3 f41_c16) f41_c18))))
def f41_r24:List MO:=[Qa (Qv 8) (Qd (Qo (Qp (Qq (Qr Qu 0)))))]
def f41_c24:MC:=.r0 f41_r24
def f41_r25:List MO:=[Qa (Qv 56) (Qd (Qn 8)),Qa (Qv 57) (Qg 5 (Qn 5)),Qa (Qv 58) (Qf 1 false (Qn 57)),Qa (Qv 59) (Qk Qt (Qn 58)),Qa (Qv 60) (Qe Qt Go.BinOp.lss (Qn 56) (Qn 59)),Qa (Qv 61) (Qd (Qn 60)),Qb 61 true (Qv 62),Qa (Qv 62) (Qd (Qn 8)),Qb 61 true (Qv 63),Qa (Qv 63) (Qe Qt Go.BinOp.lss (Qn 62) (Qo (Qp (Qq (Qr Qu 12))))),Qa (Qv 64) (Qm (Qn 61) (Qn 63) (Qo (Qp (Qq (Qs false)))))]
def f41_c25:MC:=.r0 f41_r25
def f41_r30:List MO:=[Qa (Qv 67) (Qg 5 (Qn 6)),Qa (Qv 68) (Qf 1 false (Qn 67)),Qa (Qv 69) (Qg 5 (Qn 5)),Qa (Qv 70) (Qf 1 false (Qn 69)),Qa (Qv 71) (Qd (Qn 8)),Qa (Qv 72) (Qj 1 (Qn 70) (Qn 71)),Qa (Qv 73) (Qf 1 false (Qn 72)),Qa (Qv 74) (MOp.bslice 1 [(Qr Qu 0)] 1 [(0,(Qn 73))]),Qa (Qv 75) (MOp.app 3 1 8 (Qn 68) (Qn 74)),Qa (Qv 76) (Qg 5 (Qn 6)),Qa none (Ql 1 (Qn 76) (Qn 75))]
def f41_c30:MC:=.reg true f41_r30
def f41_r32:List MO:=[Qa (Qv 65) (Qd (Qn 8)),Qa (Qv 66) (Qe Qt Go.BinOp.add (Qn 65) (Qo (Qp (Qq (Qr Qu 1))))),Qa (Qv 8) (Qd (Qn 66))]
def f41_c32:MC:=.r0 f41_r32
def f41_c37:MC:=.seq f41_c24 (.blk 4 (.loop (.seq (.seq f41_c25 (.cond (Qn 64) .skip (MC.exit 4))) (.seq (.blk 5 f41_c30) f41_c32))))
def f41_r38:List MO:=[Qa (Qv 77) (Qg 1 (Qn 3)),Qa (Qv 78) (Qf 1 false (Qn 77)),Qa (Qv 79) (Qf 6 true (Qn 6)),Qa (Qv 80) (MOp.bslice 6 [(Qr Qu 0),(Qr Qu 0),(Qr Qu 0),(D.str (ByteArray.mk #[])),(D.sl []),(D.sl [])] 1 [(0,(Qn 79))]),Qa (Qv 81) (MOp.app 44 6 88 (Qn 78) (Qn 80)),Qa (Qv 82) (Qg 1 (Qn 3)),Qa none (Ql 1 (Qn 82) (Qn 81))]
def f41_c38:MC:=.r0 f41_r38
def f41_c41:MC:=.seq f41_c9 (.seq f41_c23 (.seq f41_c37 f41_c38))
def f41_r44:List MO:=[Qa (Qv 21) (Qd (Qn 4)),Qa (Qv 22) (Qe Qt Go.BinOp.add (Qn 21) (Qo (Qp (Qq (Qr Qu 1))))),Qa (Qv 4) (Qd (Qn 22))]
def f41_c44:MC:=.r0 f41_r44
def f41_c46:MC:=.seq (.seq f41_c3 (.cond (Qn 20) .skip (MC.exit 0))) (.seq (.blk 1 (.seq f41_c8 f41_c41)) f41_c44)
def f41_r50:List MO:=[Qa (Qv 83) (Qf 2 true (Qn 3)),Qa none (Ql 2 (Qn 2) (Qn 83))]
def f41_c50:MC:=.r0 f41_r50
def f41_c54:MC:=.seq f41_c1 (.seq (.seq f41_c2 (.blk 0 (.loop f41_c46))) (.seq f41_c50 .ret))
def f41_c55:MC:=.seq f41_c0 f41_c54
attribute [go_sem] f41_r0 f41_r1 f41_r2 f41_r3 f41_r8 f41_r9 f41_r10 f41_r11 f41_r16 f41_r18 f41_r24 f41_r25 f41_r30 f41_r32 f41_r38 f41_r44 f41_r50
theorem f41_k : KK QP 41 f41 [1] f41_c55 [(RV.cell 2 2 true)] 84 := ⟨func41,by kernel_rfl,by kernel_rfl,by kernel_rfl,by kernel_rfl⟩
theorem f41_ok : callable QP 41 = true := by kernel_rfl
theorem f41_in (h : GI QP gp [(RV.cell 2 2 true)] res 84 f41_c55 args) : Does QP gp 41 args res := f41_k.i f41_ok h
def f49_r0:List MO:=[Qa (Qv 2) (Qd (Qo (Qp A.nil)))]
def f49_c0:MC:=.r0 f49_r0
def f49_r1:List MO:=[Qa (Qv 3) (Qd (Qn 0)),Qa (Qv 4) (MOp.nilq NK.sl false (Qn 3))]
def f49_c1:MC:=.r0 f49_r1
def f49_r2:List MO:=[Qa (Qv 2) (Qd (Qo (Qp A.nil)))]
def f49_c2:MC:=.r0 f49_r2
def f49_r8:List MO:=[Qa (Qv 5) (MOp.bslO 1 [(Qr Qu 0)] 0 []),Qa (Qv 6) (Qd (Qn 0)),Qa (Qv 7) (MOp.app 3 1 8 (Qn 5) (Qn 6)),Qa (Qv 2) (Qd (Qn 7))]
def f49_c8:MC:=.r0 f49_r8
def f49_c12:MC:=.seq f49_c0 (.seq (.seq f49_c1 (.cond (Qn 4) (.seq f49_c2 .ret) .skip)) (.seq f49_c8 .ret))
theorem f49_k : KK QP 49 f49 [5] f49_c12 [(RV.t 2)] 8 := ⟨func49,by kernel_rfl,by kernel_rfl,by kernel_rfl,by kernel_rfl⟩
theorem f49_ok : callable QP 49 = true := by kernel_rfl
theorem f49_in (h : GI QP gp [(RV.t 2)] res 8 f49_c12 args) : Does QP gp 49 args res := f49_k.i f49_ok h
theorem f49_tri (h : GT QP gp [(RV.t 2)] pre R 8 f49_c12 args) : Tri QP gp 49 args pre R := f49_k.t h
def f54_r0:List MO:=[Qa (Qv 2) (MOp.ibox (Qn 0)),Qa (Qv 4) (MOp.alloc [(Qr Qu 0),(Qr Qu 0),(Qr Qu 0),(D.str (ByteArray.mk #[])),(D.sl []),(D.sl []),(Qr Qu 0)]),Qa (Qv 5) (Qd (Qo (Qp (Qq (Qr Qu 0)))))]
def f54_c0:MC:=.r0 f54_r0
def f54_r1:List MO:=[Qa (Qv 6) (Qf 2 true (Qn 2)),Qa (Qv 7) (Qd (Qn 1)),Qa (Qv 8) (Qh 86 [(Qn 6),(Qn 7)]),Qa (Qv 9) (MOp.not (Qn 8))]
def f54_c1:MC:=.r0 f54_r1
def f54_r2:List MO:=[Qa (Qv 10) (MOp.build [(Qr Qu 0),(Qr Qu 0),(Qr Qu 0),(D.str (ByteArray.mk #[])),(D.sl []),(D.sl []),(Qr Qu 0)] []),Qa none (Ql 7 (Qn 4) (Qn 10)),Qa (Qv 5) (Qd (Qo (Qp (Qq (Qr Qu 2)))))]
def f54_c2:MC:=.r0 f54_r2
def f54_r8:List MO:=[Qa (Qv 11) (Qg 1 (Qn 2)),Qa (Qv 12) (Qf 1 false (Qn 11)),Qa (Qv 13) (Qd (Qn 1)),Qa (Qv 14) (Qj 6 (Qn 12) (Qn 13)),Qa (Qv 15) (Qf 6 true (Qn 14)),Qa (Qv 16) (Qg 1 (Qn 2)),Qa (Qv 17) (Qf 1 false (Qn 16)),Qa (Qv 18) (Qk Qt (Qn 17)),Qa (Qv 19) (MOp.build [(Qr Qu 0),(Qr Qu 0),(Qr Qu 0),(D.str (ByteArray.mk #[])),(D.sl []),(D.sl []),(Qr Qu 0)] [(0,(6,(Qn 15))),(6,(1,(Qn 18)))]),Qa none (Ql 7 (Qn 4) (Qn 19)),Qa (Qv 5) (Qd (Qo (Qp (Qq (Qr Qu 0)))))]
def f54_c8:MC:=.reg true f54_r8
def f54_c12:MC:=.seq f54_c0 (.seq (.seq f54_c1 (.cond (Qn 9) (.seq f54_c2 .ret) .skip)) (.seq f54_c8 .ret))
attribute [go_sem] f54_r0 f54_r1 f54_r2 f54_r8
theorem f54_k : KK QP 54 f54 [2] f54_c12 [(RV.cell 4 7 true),(RV.t 5)] 20 := ⟨func54,by kernel_rfl,by kernel_rfl,by kernel_rfl,by kernel_rfl⟩
theorem f54_ok : callable QP 54 = true := by kernel_rfl
theorem f54_in (h : GI QP gp [(RV.cell 4 7 true),(RV.t 5)] res 20 f54_c12 args) : Does QP gp 54 args res := f54_k.i f54_ok h
def f55_r0:List MO:=[Qa (Qv 1) (MOp.ibox (Qn 0)),Qa (Qv 2) (Qd (Qo (Qp A.nil)))]
def f55_c0:MC:=.r0 f55_r0
def f55_r1:List MO:=[Qa (Qv 6) (Qg 0 (Qn 1)),Qa (Qv 7) (Qg 0 (Qn 6)),Qa (Qv 8) (Qf 1 false (Qn 7)),Qa (Qv 9) (Qe Qt Go.BinOp.neq (Qn 8) (Qo (Qp (Qq (Qr Qu 2))))),Qa (Qv 10) (Qd (Qn 9)),Qb 10 false (Qv 11),Qa (Qv 11) (Qf 7 true (Qn 1)),Qb 10 false (Qv 12),Qa (Qv 12) (Qh 87 [(Qn 11)]),Qb 10 false (Qv 13),Qa (Qv 13) (MOp.not (Qn 12)),Qa (Qv 14) (Qm (Qn 10) (Qo (Qp (Qq (Qs true)))) (Qn 13))]
def f55_c1:MC:=.r0 f55_r1
def f55_r2:List MO:=[Qa (Qv 2) (Qd (Qo (Qp A.nil)))]
def f55_c2:MC:=.r0 f55_r2
def f55_r8:List MO:=[Qa (Qv 3) (Qd (Qo (Qp A.nil)))]
def f55_c8:MC:=.r0 f55_r8
def f55_r9:List MO:=[Qa (Qv 15) (Qg 0 (Qn 1)),Qa (Qv 16) (Qg 4 (Qn 15)),Qa (Qv 17) (Qf 1 false (Qn 16)),Qa (Qv 18) (Qk Qt (Qn 17)),Qa (Qv 19) (Qd (Qo (Qp (Qq (Qr Qu 0)))))]
def f55_c9:MC:=.r0 f55_r9
def f55_r10:List MO:=[Qa (Qv 20) (Qe Qt Go.BinOp.lss (Qn 19) (Qn 18))]
def f55_c10:MC:=.r0 f55_r10
def f55_r14:List MO:=[Qa (Qv 21) (Qd (Qn 19)),Qa (Qv 22) (Qj 3 (Qn 17) (Qn 19)),Qa (Qv 23) (Qf 3 true (Qn 22)),Qa (Qv 5) (MOp.alloc [(Qr Qu 0),(Qr Qu 0),(D.str (ByteArray.mk #[]))]),Qa (Qv 4) (Qd (Qn 21)),Qa none (Ql 3 (Qn 5) (Qn 23))]
def f55_c14:MC:=.r0 f55_r14
def f55_r15:List MO:=[Qa (Qv 24) (Qd (Qn 3)),Qa (Qv 25) (Qf 3 true (Qn 5)),Qa (Qv 26) (Qg 0 (Qn 1)),Qa (Qv 27) (Qg 5 (Qn 26)),Qa (Qv 28) (Qf 1 false (Qn 27)),Qa (Qv 29) (Qd (Qn 4)),Qa (Qv 30) (Qj 1 (Qn 28) (Qn 29)),Qa (Qv 31) (Qf 1 false (Qn 30)),Qa (Qv 32) (MOp.build [(Qr Qu 0),(Qr Qu 0),(D.str (ByteArray.mk #[])),(Qr Qu 0)] [(0,(3,(Qn 25))),(3,(1,(Qn 31)))]),Qa (Qv 33) (MOp.bslice 4 [(Qr Qu 0),(Qr Qu 0),(D.str (ByteArray.mk #[])),(Qr Qu 0)] 1 [(0,(Qn 32))]),Qa (Qv 34) (MOp.app 88 4 40 (Qn 24) (Qn 33)),Qa (Qv 3) (Qd (Qn 34))]
def f55_c15:MC:=.reg true f55_r15
def f55_r18:List MO:=[Qa (Qv 35) (Qe Qt Go.BinOp.add (Qn 19) (Qo (Qp (Qq (Qr Qu 1))))),Qa (Qv 19) (Qd (Qn 35))]
def f55_c18:MC:=.r0 f55_r18
def f55_c21:MC:=.seq f55_c10 (.seq (.cond (Qn 20) .skip (MC.exit 0)) (.seq (.blk 1 (.seq f55_c14 f55_c15)) f55_c18))
def f55_r25:List MO:=[Qa (Qv 36) (Qd (Qn 3)),Qa (Qv 37) (Qh 88 [(Qn 36),(Qo (Qp (Qq (D.fn (Go.Fn.func 89) []))))])]
def f55_c25:MC:=.r0 f55_r25
def f55_r26:List MO:=[Qa (Qv 38) (Qd (Qn 3)),Qa (Qv 2) (Qd (Qn 38))]
def f55_c26:MC:=.r0 f55_r26
def f55_c30:MC:=.seq (.seq f55_c9 (.blk 0 (.loop f55_c21))) (.seq f55_c25 (.seq f55_c26 .ret))
def f55_c32:MC:=.seq (.seq f55_c1 (.cond (Qn 14) (.seq f55_c2 .ret) .skip)) (.seq f55_c8 f55_c30)
def f55_c33:MC:=.seq f55_c0 f55_c32
attribute [go_sem] f55_r0 f55_r1 f55_r2 f55_r8 f55_r9 f55_r10 f55_r14 f55_r15 f55_r18 f55_r25 f55_r26
theorem f55_k : KK QP 55 f55 [1] f55_c33 [(RV.t 2)] 39 := ⟨func55,by kernel_rfl,by kernel_rfl,by kernel_rfl,by kernel_rfl⟩
theorem f55_ok : callable QP 55 = true := by kernel_rfl
theorem f55_in (h : GI QP gp [(RV.t 2)] res 39 f55_c33 args) : Does QP gp 55 args res := f55_k.i f55_ok h
def f68_r0:List MO:=[Qa (Qv 2) (Qd (Qo (Qp (Qq (Qr Qu 0))))),Qa (Qv 3) (Qd (Qo (Qp (Qq (Qr Qu 0)))))]
def f68_c0:MC:=.r0 f68_r0
def f68_r1:List MO:=[Qa (Qv 4) (MOp.alloc [(Qr Qu 0),(Qr Qu 0)])]
def f68_c1:MC:=.r0 f68_r1
def f68_r2:List MO:=[Qa (Qv 5) (Qd (Qn 0)),Qa (Qv 6) (MOp.mkI 147 (Qn 4)),Qa (Qv 7) (Qh 91 [(Qn 5),(Qn 6)])]
def f68_c2:MC:=.r0 f68_r2
def f68_r3:List MO:=[Qa (Qv 8) (Qg 0 (Qn 4)),Qa (Qv 9) (Qf 1 false (Qn 8)),Qa (Qv 10) (Qg 1 (Qn 4)),Qa (Qv 11) (Qf 1 false (Qn 10)),Qa (Qv 2) (Qd (Qn 9)),Qa (Qv 3) (Qd (Qn 11))]
def f68_c3:MC:=.reg true f68_r3
def f68_r9:List MO:=[Qa (Qv 2) (Qd (Qo (Qp (Qq (Qr Qu 0))))),Qa (Qv 3) (Qd (Qo (Qp (Qq (Qr Qu 0)))))]
def f68_c9:MC:=.r0 f68_r9
def f68_c13:MC:=.seq f68_c1 (.seq (.seq f68_c2 (.cond (Qn 7) (.seq f68_c3 .ret) .skip)) (.seq f68_c9 .ret))
def f68_c14:MC:=.seq f68_c0 f68_c13
attribute [go_sem] f68_r0 f68_r1 f68_r2 f68_r3 f68_r9
theorem f68_k : KK QP 68 f68 [] f68_c14 [(RV.t 2),(RV.t 3)] 12 := ⟨func68,by kernel_rfl,by kernel_rfl,by kernel_rfl,by kernel_rfl⟩
theorem f68_ok : callable QP 68 = true := by kernel_rfl
theorem f68_in (h : GI QP gp [(RV.t 2),(RV.t 3)] res 12 f68_c14 args) : Does QP gp 68 args res := f68_k.i f68_ok h
def f69_r0:List MO:=[Qa (Qv 1) (MOp.ibox (Qn 0)),Qa (Qv 2) (MOp.alloc [D.nilI])]
def f69_c0:MC:=.r0 f69_r0
def f69_r1:List MO:=[Qa (Qv 6) (Qg 1 (Qn 1)),Qa (Qv 7) (Qf 1 false (Qn 6)),Qa (Qv 8) (Qk Qt (Qn 7)),Qa (Qv 9) (Qe Qt Go.BinOp.gtr (Qn 8) (Qo (Qp (Qq (Qr Qu 200))))),Qa (Qv 5) (Qd (Qn 9))]
def f69_c1:MC:=.r0 f69_r1
def f69_r2:List MO:=[Qa (Qv 10) (MOp.build [(Qr Qu 0),(Qr Qu 0)] [(0,(1,(Qo (Qp (Qq (Qr Qu 0)))))),(1,(1,(Qo (Qp (Qq (Qr Qu 71))))))]),Qa (Qv 11) (MOp.mkI 146 (Qn 10)),Qa none (Ql 1 (Qn 2) (Qn 11))]
def f69_c2:MC:=.r0 f69_r2
def f69_r5:List MO:=[Qa (Qv 13) (Qf 2 true (Qn 1)),Qa (Qv 14) (Qg 0 (Qn 1)),Qa (Qv 15) (Qf 1 false (Qn 14)),Qa (Qv 16) (Qh 86 [(Qn 13),(Qn 15)]),Qa (Qv 17) (MOp.not (Qn 16)),Qa (Qv 12) (Qd (Qn 17))]
def f69_c5:MC:=.r0 f69_r5
def f69_r6:List MO:=[Qa (Qv 18) (MOp.build [(Qr Qu 0),(Qr Qu 0)] [(0,(1,(Qo (Qp (Qq (Qr Qu (-1))))))),(1,(1,(Qo (Qp (Qq (Qr Qu 70))))))]),Qa (Qv 19) (MOp.mkI 146 (Qn 18)),Qa none (Ql 1 (Qn 2) (Qn 19))]
def f69_c6:MC:=.r0 f69_r6
def f69_c13:MC:=.seq f69_c1 (.cond (Qn 5) (.seq f69_c2 .ret) (.seq f69_c5 (.cond (Qn 12) (.seq f69_c6 .ret) .skip)))
def f69_r15:List MO:=[Qa (Qv 20) (Qf 2 true (Qn 1)),Qa (Qv 21) (Qh 96 [(Qn 20)])]
def f69_c15:MC:=.r0 f69_r15
def f69_r16:List MO:=[Qa (Qv 3) (Qd (Qn 22))]
def f69_c16:MC:=.r0 f69_r16
def f69_r17:List MO:=[Qa (Qv 4) (MOp.alloc [(Qr Qu 0),(Qr Qu 0),(Qr Qu 0),(D.str (ByteArray.mk #[])),(D.sl []),(D.sl []),(Qr Qu 0)]),Qa none (Ql 7 (Qn 4) (Qn 23))]
def f69_c17:MC:=.r0 f69_r17
def f69_r19:List MO:=[Qa (Qv 24) (Qf 7 true (Qn 4)),Qa (Qv 25) (Qh 97 [(Qn 24)]),Qa (Qv 26) (MOp.not (Qn 25))]
def f69_c19:MC:=.r0 f69_r19
def f69_r20:List MO:=[Qa (Qv 27) (Qd (Qn 3)),Qa (Qv 28) (MOp.build [(Qr Qu 0),(Qr Qu 0)] [(0,(1,(Qn 27))),(1,(1,(Qo (Qp (Qq (Qr Qu 70))))))]),Qa (Qv 29) (MOp.mkI 146 (Qn 28)),Qa none (Ql 1 (Qn 2) (Qn 29))]
def f69_c20:MC:=.r0 f69_r20
def f69_c27:MC:=.rf (Qn 21) [22,23] (.seq f69_c16 f69_c17) (.blk 2 (.seq f69_c19 (.cond (Qn 26) (.seq f69_c20 .ret) .skip)))
def f69_r30:List MO:=[Qa none (Ql 1 (Qn 2) (Qo (Qp (Qq D.nilI))))]
def f69_c30:MC:=.r0 f69_r30
def f69_c34:MC:=.seq (.blk 0 f69_c13) (.seq (.seq f69_c15 (.blk 1 f69_c27)) (.seq f69_c30 .ret))
def f69_c35:MC:=.seq f69_c0 f69_c34
attribute [go_sem] f69_r0 f69_r1 f69_r2 f69_r5 f69_r6 f69_r15 f69_r16 f69_r17 f69_r19 f69_r20 f69_r30
theorem f69_k : KK QP 69 f69 [1] f69_c35 [(RV.cell 2 1 false)] 30 := ⟨func69,by kernel_rfl,by kernel_rfl,by kernel_rfl,by kernel_rfl⟩
theorem f69_ok : callable QP 69 = true := by kernel_rfl
theorem f69_in (h : GI QP gp [(RV.cell 2 1 false)] res 30 f69_c35 args) : Does QP gp 69 args res := f69_k.i f69_ok h
def f70_r0:List MO:=[Qa (Qv 2) (MOp.ibox (Qn 0)),Qa (Qv 3) (MOp.ibox (Qn 1)),Qa (Qv 4) (Qd (Qo (Qp (Qq (Qs false)))))]
def f70_c0:MC:=.r0 f70_r0
def f70_r1:List MO:=[Qa (Qv 5) (Qg 0 (Qn 2)),Qa (Qv 6) (Qf 1 false (Qn 5)),Qa (Qv 7) (Qg 0 (Qn 3)),Qa (Qv 8) (Qf 1 false (Qn 7)),Qa (Qv 9) (Qe Qt Go.BinOp.eql (Qn 6) (Qn 8)),Qa (Qv 10) (Qd (Qn 9)),Qb 10 true (Qv 11),Qa (Qv 11) (Qg 1 (Qn 2)),Qb 10 true (Qv 12),Qa (Qv 12) (Qf 3 true (Qn 11)),Qb 10 true (Qv 13),Qa (Qv 13) (Qg 1 (Qn 3)),Qb 10 true (Qv 14),Qa (Qv 14) (Qf 3 true (Qn 13)),Qb 10 true (Qv 15),Qa (Qv 15) (MOp.eqs false [Qt,Qt,Leaf.s] (Qn 12) (Qn 14)),Qa (Qv 16) (Qm (Qn 10) (Qn 15) (Qo (Qp (Qq (Qs false))))),Qa (Qv 17) (Qd (Qn 16)),Qb 17 true (Qv 18),Qa (Qv 18) (Qg 4 (Qn 2)),Qb 17 true (Qv 19),Qa (Qv 19) (Qf 1 false (Qn 18)),Qb 17 true (Qv 20),Qa (Qv 20) (Qg 4 (Qn 3)),Qb 17 true (Qv 21),Qa (Qv 21) (Qf 1 false (Qn 20)),Qb 17 true (Qv 22),Qa (Qv 22) (Qh 71 [(Qn 19),(Qn 21)]),Qa (Qv 23) (Qm (Qn 17) (Qn 22) (Qo (Qp (Qq (Qs false))))),Qa (Qv 24) (Qd (Qn 23)),Qb 24 true (Qv 25),Qa (Qv 25) (Qg 5 (Qn 2)),Qb 24 true (Qv 26),Qa (Qv 26) (Qf 1 false (Qn 25)),Qb 24 true (Qv 27),Qa (Qv 27) (Qg 5 (Qn 3)),Qb 24 true (Qv 28),Qa (Qv 28) (Qf 1 false (Qn 27)),Qb 24 true (Qv 29),Qa (Qv 29) (Qh 72 [(Qn 26),(Qn 28)]),Qa (Qv 30) (Qm (Qn 24) (Qn 29) (Qo (Qp (Qq (Qs false))))),Qa (Qv 4) (Qd (Qn 30))]
def f70_c1:MC:=.r0 f70_r1
def f70_c4:MC:=.seq f70_c0 (.seq f70_c1 .ret)
attribute [go_sem] f70_r0 f70_r1
theorem f70_k : KK QP 70 f70 [2,3] f70_c4 [(RV.t 4)] 31 := ⟨func70,by kernel_rfl,by kernel_rfl,by kernel_rfl,by kernel_rfl⟩
theorem f70_ok : callable QP 70 = true := by kernel_rfl
theorem f70_in (h : GI QP gp [(RV.t 4)] res 31 f70_c4 args) : Does QP gp 70 args res := f70_k.i f70_ok h
def f71_r0:List MO:=[Qa (Qv 4) (Qd (Qo (Qp (Qq (Qs false)))))]
def f71_c0:MC:=.r0 f71_r0
def f71_r1:List MO:=[Qa (Qv 6) (Qd (Qn 0)),Qa (Qv 7) (Qk Qt (Qn 6)),Qa (Qv 8) (Qd (Qn 1)),Qa (Qv 9) (Qk Qt (Qn 8)),Qa (Qv 10) (Qe Qt Go.BinOp.neq (Qn 7) (Qn 9))]
def f71_c1:MC:=.r0 f71_r1
def f71_r2:List MO:=[Qa (Qv 4) (Qd (Qo (Qp (Qq (Qs false)))))]
def f71_c2:MC:=.r0 f71_r2
def f71_r8:List MO:=[Qa (Qv 11) (Qd (Qn 0)),Qa (Qv 12) (Qk Qt (Qn 11)),Qa (Qv 13) (Qd (Qo (Qp (Qq (Qr Qu 0)))))]
def f71_c8:MC:=.r0 f71_r8
def f71_r9:List MO:=[Qa (Qv 14) (Qe Qt Go.BinOp.lss (Qn 13) (Qn 12))]
def f71_c9:MC:=.r0 f71_r9
def f71_r13:List MO:=[Qa (Qv 15) (Qd (Qn 13)),Qa (Qv 5) (Qd (Qn 15))]
def f71_c13:MC:=.r0 f71_r13
def f71_r14:List MO:=[Qa (Qv 16) (Qd (Qn 0)),Qa (Qv 17) (Qd (Qn 5)),Qa (Qv 18) (Qj 3 (Qn 16) (Qn 17)),Qa (Qv 19) (Qf 3 true (Qn 18)),Qa (Qv 20) (Qd (Qn 1)),Qa (Qv 21) (Qd (Qn 5)),Qa (Qv 22) (Qj 3 (Qn 20) (Qn 21)),Qa (Qv 23) (Qf 3 true (Qn 22)),Qa (Qv 24) (MOp.eqs true [Qt,Qt,Leaf.s] (Qn 19) (Qn 23))]
def f71_c14:MC:=.reg true f71_r14
def f71_r15:List MO:=[Qa (Qv 4) (Qd (Qo (Qp (Qq (Qs false)))))]
def f71_c15:MC:=.r0 f71_r15
def f71_r23:List MO:=[Qa (Qv 25) (Qe Qt Go.BinOp.add (Qn 13) (Qo (Qp (Qq (Qr Qu 1))))),Qa (Qv 13) (Qd (Qn 25))]
def f71_c23:MC:=.r0 f71_r23
def f71_c24:MC:=.seq (.blk 1 (.seq f71_c13 (.seq f71_c14 (.cond (Qn 24) (.seq f71_c15 .ret) .skip)))) f71_c23
def f71_r30:List MO:=[Qa (Qv 4) (Qd (Qo (Qp (Qq (Qs true)))))]
def f71_c30:MC:=.r0 f71_r30
def f71_c33:MC:=.seq (.seq f71_c8 (.blk 0 (.loop (.seq f71_c9 (.seq (.cond (Qn 14) .skip (MC.exit 0)) f71_c24))))) (.seq f71_c30 .ret)
def f71_c35:MC:=.seq f71_c0 (.seq (.seq f71_c1 (.cond (Qn 10) (.seq f71_c2 .ret) .skip)) f71_c33)
attribute [go_sem] f71_r0 f71_r1 f71_r2 f71_r8 f71_r9 f71_r13 f71_r14 f71_r15 f71_r23 f71_r30
theorem f71_k : KK QP 71 f71 [] f71_c35 [(RV.t 4)] 26 := ⟨func71,by kernel_rfl,by kernel_rfl,by kernel_rfl,by kernel_rfl⟩
theorem f71_ok : callable QP 71 = true := by kernel_rfl
theorem f71_in (h : GI QP gp [(RV.t 4)] res 26 f71_c35 args) : Does QP gp 71 args res := f71_k.i f71_ok h
def f72_r0:List MO:=[Qa (Qv 4) (Qd (Qo (Qp (Qq (Qs false)))))]
def f72_c0:MC:=.r0 f72_r0
def f72_r1:List MO:=[Qa (Qv 6) (Qd (Qn 0)),Qa (Qv 7) (Qk Qt (Qn 6)),Qa (Qv 8) (Qd (Qn 1)),Qa (Qv 9) (Qk Qt (Qn 8)),Qa (Qv 10) (Qe Qt Go.BinOp.neq (Qn 7) (Qn 9))]
def f72_c1:MC:=.r0 f72_r1
def f72_r2:List MO:=[Qa (Qv 4) (Qd (Qo (Qp (Qq (Qs false)))))]
def f72_c2:MC:=.r0 f72_r2
def f72_r8:List MO:=[Qa (Qv 11) (Qd (Qn 0)),Qa (Qv 12) (Qk Qt (Qn 11)),Qa (Qv 13) (Qd (Qo (Qp (Qq (Qr Qu 0)))))]
def f72_c8:MC:=.r0 f72_r8
def f72_r9:List MO:=[Qa (Qv 14) (Qe Qt Go.BinOp.lss (Qn 13) (Qn 12))]
def f72_c9:MC:=.r0 f72_r9
def f72_r13:List MO:=[Qa (Qv 15) (Qd (Qn 13)),Qa (Qv 5) (Qd (Qn 15))]
def f72_c13:MC:=.r0 f72_r13
def f72_r14:List MO:=[Qa (Qv 16) (Qd (Qn 0)),Qa (Qv 17) (Qd (Qn 5)),Qa (Qv 18) (Qj 1 (Qn 16) (Qn 17)),Qa (Qv 19) (Qf 1 false (Qn 18)),Qa (Qv 20) (Qd (Qn 1)),Qa (Qv 21) (Qd (Qn 5)),Qa (Qv 22) (Qj 1 (Qn 20) (Qn 21)),Qa (Qv 23) (Qf 1 false (Qn 22)),Qa (Qv 24) (Qe Qt Go.BinOp.neq (Qn 19) (Qn 23))]
def f72_c14:MC:=.reg true f72_r14
def f72_r15:List MO:=[Qa (Qv 4) (Qd (Qo (Qp (Qq (Qs false)))))]
def f72_c15:MC:=.r0 f72_r15
def f72_r23:List MO:=[Qa (Qv 25) (Qe Qt Go.BinOp.add (Qn 13) (Qo (Qp (Qq (Qr Qu 1))))),Qa (Qv 13) (Qd (Qn 25))]
def f72_c23:MC:=.r0 f72_r23
def f72_c24:MC:=.seq (.blk 1 (.seq f72_c13 (.seq f72_c14 (.cond (Qn 24) (.seq f72_c15 .ret) .skip)))) f72_c23
def f72_r30:List MO:=[Qa (Qv 4) (Qd (Qo (Qp (Qq (Qs true)))))]
def f72_c30:MC:=.r0 f72_r30
def f72_c33:MC:=.seq (.seq f72_c8 (.blk 0 (.loop (.seq f72_c9 (.seq (.cond (Qn 14) .skip (MC.exit 0)) f72_c24))))) (.seq f72_c30 .ret)
def f72_c35:MC:=.seq f72_c0 (.seq (.seq f72_c1 (.cond (Qn 10) (.seq f72_c2 .ret) .skip)) f72_c33)
attribute [go_sem] f72_r0 f72_r1 f72_r2 f72_r8 f72_r9 f72_r13 f72_r14 f72_r15 f72_r23 f72_r30
theorem f72_k : KK QP 72 f72 [] f72_c35 [(RV.t 4)] 26 := ⟨func72,by kernel_rfl,by kernel_rfl,by kernel_rfl,by kernel_rfl⟩
theorem f72_ok : callable QP 72 = true := by kernel_rfl
theorem f72_in (h : GI QP gp [(RV.t 4)] res 26 f72_c35 args) : Does QP gp 72 args res := f72_k.i f72_ok h
def f73_r0:List MO:=[Qa (Qv 6) (Qd (Qo (Qp (Qq (Qs false)))))]
def f73_c0:MC:=.r0 f73_r0
def f73_r1:List MO:=[Qa (Qv 10) (Qd (Qn 0)),Qa (Qv 11) (Qk Qt (Qn 10)),Qa (Qv 12) (Qd (Qn 1)),Qa (Qv 13) (Qk Qt (Qn 12)),Qa (Qv 14) (Qe Qt Go.BinOp.neq (Qn 11) (Qn 13))]
def f73_c1:MC:=.r0 f73_r1
def f73_r2:List MO:=[Qa (Qv 6) (Qd (Qo (Qp (Qq (Qs false)))))]
def f73_c2:MC:=.r0 f73_r2
def f73_r8:List MO:=[Qa (Qv 15) (Qd (Qn 0)),Qa (Qv 16) (Qk Qt (Qn 15)),Qa (Qv 17) (Qd (Qo (Qp (Qq (Qr Qu 0)))))]
def f73_c8:MC:=.r0 f73_r8
def f73_r9:List MO:=[Qa (Qv 18) (Qe Qt Go.BinOp.lss (Qn 17) (Qn 16))]
def f73_c9:MC:=.r0 f73_r9
def f73_r13:List MO:=[Qa (Qv 19) (Qd (Qn 17)),Qa (Qv 20) (Qj 6 (Qn 15) (Qn 17)),Qa (Qv 21) (Qf 6 true (Qn 20)),Qa (Qv 8) (MOp.alloc [(Qr Qu 0),(Qr Qu 0),(Qr Qu 0),(D.str (ByteArray.mk #[])),(D.sl []),(D.sl [])]),Qa (Qv 7) (Qd (Qn 19)),Qa none (Ql 6 (Qn 8) (Qn 21))]
def f73_c13:MC:=.r0 f73_r13
def f73_r14:List MO:=[Qa (Qv 22) (Qd (Qn 1)),Qa (Qv 23) (Qd (Qn 7)),Qa (Qv 24) (Qj 6 (Qn 22) (Qn 23)),Qa (Qv 25) (Qf 6 true (Qn 24)),Qa (Qv 9) (MOp.alloc [(Qr Qu 0),(Qr Qu 0),(Qr Qu 0),(D.str (ByteArray.mk #[])),(D.sl []),(D.sl [])]),Qa none (Ql 6 (Qn 9) (Qn 25))]
def f73_c14:MC:=.r0 f73_r14
def f73_r15:List MO:=[Qa (Qv 26) (Qd (Qn 2)),Qa (Qv 27) (Qf 6 true (Qn 8)),Qa (Qv 28) (Qf 6 true (Qn 9)),Qa (Qv 29) (MOp.callv (Qn 26) [(Qn 27),(Qn 28)]),Qa (Qv 30) (MOp.not (Qn 29))]
def f73_c15:MC:=.r0 f73_r15
def f73_r16:List MO:=[Qa (Qv 6) (Qd (Qo (Qp (Qq (Qs false)))))]
def f73_c16:MC:=.r0 f73_r16
def f73_c23:MC:=.seq f73_c13 (.seq f73_c14 (.seq f73_c15 (.cond (Qn 30) (.seq f73_c16 .ret) .skip)))
def f73_r25:List MO:=[Qa (Qv 31) (Qe Qt Go.BinOp.add (Qn 17) (Qo (Qp (Qq (Qr Qu 1))))),Qa (Qv 17) (Qd (Qn 31))]
def f73_c25:MC:=.r0 f73_r25
def f73_c31:MC:=.seq f73_c8 (.blk 0 (.loop (.seq f73_c9 (.seq (.cond (Qn 18) .skip (MC.exit 0)) (.seq (.blk 1 f73_c23) f73_c25)))))
def f73_r32:List MO:=[Qa (Qv 6) (Qd (Qo (Qp (Qq (Qs true)))))]
def f73_c32:MC:=.r0 f73_r32
def f73_c36:MC:=.seq (.seq f73_c1 (.cond (Qn 14) (.seq f73_c2 .ret) .skip)) (.seq f73_c31 (.seq f73_c32 .ret))
def f73_c37:MC:=.seq f73_c0 f73_c36
attribute [go_sem] f73_r0 f73_r1 f73_r2 f73_r8 f73_r9 f73_r13 f73_r14 f73_r15 f73_r16 f73_r25 f73_r32
theorem f73_k : KK QP 73 f73 [] f73_c37 [(RV.t 6)] 32 := ⟨func73,by kernel_rfl,by kernel_rfl,by kernel_rfl,by kernel_rfl⟩
theorem f73_ok : callable QP 73 = true := by kernel_rfl
theorem f73_in (h : GI QP gp [(RV.t 6)] res 32 f73_c37 args) : Does QP gp 73 args res := f73_k.i f73_ok h
def f74_r0:List MO:=[Qa (Qv 2) (MOp.ibox (Qn 0)),Qa (Qv 4) (Qd (Qo (Qp A.nil))),Qa (Qv 5) (Qd (Qo (Qp (Qq (Qr Qu 0)))))]
def f74_c0:MC:=.r0 f74_r0
def f74_r1:List MO:=[Qa (Qv 12) (Qf 2 true (Qn 2)),Qa (Qv 13) (Qd (Qn 1)),Qa (Qv 14) (Qh 54 [(Qn 12),(Qn 13)]),Qa (Qv 11) (Qd (Qn 14)),Qa (Qv 15) (Qi (Qn 11) 0),Qa (Qv 16) (Qi (Qn 11) 1),Qa (Qv 6) (MOp.alloc [(Qr Qu 0),(Qr Qu 0),(Qr Qu 0),(D.str (ByteArray.mk #[])),(D.sl []),(D.sl []),(Qr Qu 0)]),Qa none (Ql 7 (Qn 6) (Qn 15)),Qa (Qv 7) (Qd (Qn 16))]
def f74_c1:MC:=.r0 f74_r1
def f74_r2:List MO:=[Qa (Qv 8) (Qd (Qo (Qp A.nil)))]
def f74_c2:MC:=.r0 f74_r2
def f74_r3:List MO:=[Qa (Qv 17) (Qf 7 true (Qn 6)),Qa (Qv 18) (Qh 55 [(Qn 17)]),Qa (Qv 19) (Qk Qt (Qn 18)),Qa (Qv 20) (Qd (Qo (Qp (Qq (Qr Qu 0)))))]
def f74_c3:MC:=.r0 f74_r3
def f74_r4:List MO:=[Qa (Qv 21) (Qe Qt Go.BinOp.lss (Qn 20) (Qn 19))]
def f74_c4:MC:=.r0 f74_r4
def f74_r8:List MO:=[Qa (Qv 22) (Qj 4 (Qn 18) (Qn 20)),Qa (Qv 23) (Qf 4 true (Qn 22)),Qa (Qv 10) (MOp.alloc [(Qr Qu 0),(Qr Qu 0),(D.str (ByteArray.mk #[])),(Qr Qu 0)]),Qa none (Ql 4 (Qn 10) (Qn 23))]
def f74_c8:MC:=.r0 f74_r8
def f74_r9:List MO:=[Qa (Qv 24) (Qd (Qn 8)),Qa (Qv 25) (Qg 0 (Qn 10)),Qa (Qv 26) (Qf 3 true (Qn 25)),Qa (Qv 27) (MOp.bslice 3 [(Qr Qu 0),(Qr Qu 0),(D.str (ByteArray.mk #[]))] 1 [(0,(Qn 26))]),Qa (Qv 28) (MOp.app 41 3 32 (Qn 24) (Qn 27)),Qa (Qv 8) (Qd (Qn 28))]
def f74_c9:MC:=.r0 f74_r9
def f74_r12:List MO:=[Qa (Qv 29) (Qe Qt Go.BinOp.add (Qn 20) (Qo (Qp (Qq (Qr Qu 1))))),Qa (Qv 20) (Qd (Qn 29))]
def f74_c12:MC:=.r0 f74_r12
def f74_c15:MC:=.seq f74_c4 (.seq (.cond (Qn 21) .skip (MC.exit 0)) (.seq (.blk 1 (.seq f74_c8 f74_c9)) f74_c12))
def f74_r19:List MO:=[Qa (Qv 30) (Qd (Qn 8)),Qa (Qv 31) (Qd (Qn 7)),Qa (Qv 4) (Qd (Qn 30)),Qa (Qv 5) (Qd (Qn 31))]
def f74_c19:MC:=.r0 f74_r19
def f74_c23:MC:=.seq f74_c2 (.seq (.seq f74_c3 (.blk 0 (.loop f74_c15))) (.seq f74_c19 .ret))
def f74_c25:MC:=.seq f74_c0 (.seq f74_c1 f74_c23)
theorem f74_k : KK QP 74 f74 [2] f74_c25 [(RV.t 4),(RV.t 5)] 32 := ⟨func74,by kernel_rfl,by kernel_rfl,by kernel_rfl,by kernel_rfl⟩
theorem f74_ok : callable QP 74 = true := by kernel_rfl
theorem f74_in (h : GI QP gp [(RV.t 4),(RV.t 5)] res 32 f74_c25 args) : Does QP gp 74 args res := f74_k.i f74_ok h
def f78_r0:List MO:=[Qa (Qv 1) (MOp.ibox (Qn 0)),Qa (Qv 2) (MOp.alloc [(Qr Qu 0),(Qr Qu 0),(D.str (ByteArray.mk #[]))])]
def f78_c0:MC:=.r0 f78_r0
def f78_r1:List MO:=[Qa (Qv 3) (Qg 0 (Qn 1)),Qa (Qv 4) (Qf 1 false (Qn 3)),Qa (Qv 5) (Qg 1 (Qn 1)),Qa (Qv 6) (Qf 1 false (Qn 5)),Qa (Qv 7) (Qg 2 (Qn 1)),Qa (Qv 8) (Qf 1 false (Qn 7)),Qa (Qv 9) (Qh 100 [(Qn 8)]),Qa (Qv 10) (MOp.build [(Qr Qu 0),(Qr Qu 0),(D.str (ByteArray.mk #[]))] [(0,(1,(Qn 4))),(1,(1,(Qn 6))),(2,(1,(Qn 9)))]),Qa none (Ql 3 (Qn 2) (Qn 10))]
def f78_c1:MC:=.reg true f78_r1
def f78_c4:MC:=.seq f78_c0 (.seq f78_c1 .ret)
attribute [go_sem] f78_r0 f78_r1
theorem f78_k : KK QP 78 f78 [1] f78_c4 [(RV.cell 2 3 true)] 11 := ⟨func78,by kernel_rfl,by kernel_rfl,by kernel_rfl,by kernel_rfl⟩
theorem f78_ok : callable QP 78 = true := by kernel_rfl
theorem f78_in (h : GI QP gp [(RV.cell 2 3 true)] res 11 f78_c4 args) : Does QP gp 78 args res := f78_k.i f78_ok h
def f86_r0:List MO:=[Qa (Qv 2) (MOp.ibox (Qn 0)),Qa (Qv 4) (Qd (Qo (Qp (Qq (Qs false)))))]
def f86_c0:MC:=.r0 f86_r0
def f86_r1:List MO:=[Qa (Qv 5) (Qd (Qn 1)),Qa (Qv 6) (Qe Qt Go.BinOp.geq (Qn 5) (Qo (Qp (Qq (Qr Qu 0))))),Qa (Qv 7) (Qd (Qn 6)),Qb 7 true (Qv 8),Qa (Qv 8) (Qd (Qn 1)),Qb 7 true (Qv 9),Qa (Qv 9) (Qg 1 (Qn 2)),Qb 7 true (Qv 10),Qa (Qv 10) (Qf 1 false (Qn 9)),Qb 7 true (Qv 11),Qa (Qv 11) (Qk Qt (Qn 10)),Qb 7 true (Qv 12),Qa (Qv 12) (Qe Qt Go.BinOp.lss (Qn 8) (Qn 11)),Qa (Qv 13) (Qm (Qn 7) (Qn 12) (Qo (Qp (Qq (Qs false))))),Qa (Qv 4) (Qd (Qn 13))]
def f86_c1:MC:=.r0 f86_r1
def f86_c4:MC:=.seq f86_c0 (.seq f86_c1 .ret)
attribute [go_sem] f86_r0 f86_r1
theorem f86_k : KK QP 86 f86 [2] f86_c4 [(RV.t 4)] 14 := ⟨func86,by kernel_rfl,by kernel_rfl,by kernel_rfl,by kernel_rfl⟩
theorem f86_ok : callable QP 86 = true := by kernel_rfl
theorem f86_in (h : GI QP gp [(RV.t 4)] res 14 f86_c4 args) : Does QP gp 86 args res := f86_k.i f86_ok h
def f87_r0:List MO:=[Qa (Qv 1) (MOp.ibox (Qn 0)),Qa (Qv 2) (Qd (Qo (Qp (Qq (Qs false)))))]
def f87_c0:MC:=.r0 f87_r0
def f87_r1:List MO:=[Qa (Qv 3) (Qg 0 (Qn 1)),Qa (Qv 4) (Qg 4 (Qn 3)),Qa (Qv 5) (Qf 1 false (Qn 4)),Qa (Qv 6) (Qk Qt (Qn 5)),Qa (Qv 7) (Qg 0 (Qn 1)),Qa (Qv 8) (Qg 5 (Qn 7)),Qa (Qv 9) (Qf 1 false (Qn 8)),Qa (Qv 10) (Qk Qt (Qn 9)),Qa (Qv 11) (Qe Qt Go.BinOp.eql (Qn 6) (Qn 10)),Qa (Qv 2) (Qd (Qn 11))]
def f87_c1:MC:=.r0 f87_r1
def f87_c4:MC:=.seq f87_c0 (.seq f87_c1 .ret)
attribute [go_sem] f87_r0 f87_r1
theorem f87_k : KK QP 87 f87 [1] f87_c4 [(RV.t 2)] 12 := ⟨func87,by kernel_rfl,by kernel_rfl,by kernel_rfl,by kernel_rfl⟩
theorem f87_ok : callable QP 87 = true := by kernel_rfl
theorem f87_in (h : GI QP gp [(RV.t 2)] res 12 f87_c4 args) : Does QP gp 87 args res := f87_k.i f87_ok h
def f88_r0:List MO:=[Qa (Qv 4) (Qd (Qn 0)),Qa (Qv 5) (Qd (Qn 0)),Qa (Qv 6) (Qk Qt (Qn 5)),Qa (Qv 7) (Qd (Qn 1)),Qa (Qv 8) (Qh 109 [(Qn 4),(Qn 6),(Qn 7)])]
def f88_c0:MC:=.r0 f88_r0
attribute [go_sem] f88_r0
theorem f88_k : KK QP 88 f88 [] f88_c0 [] 9 := ⟨func88,by kernel_rfl,by kernel_rfl,by kernel_rfl,by kernel_rfl⟩
theorem f88_ok : callable QP 88 = true := by kernel_rfl
theorem f88_tri (h : GT QP gp [] pre R 9 f88_c0 args) : Tri QP gp 88 args pre R := f88_k.t h
def f89_r0:List MO:=[Qa (Qv 2) (MOp.ibox (Qn 0)),Qa (Qv 3) (MOp.ibox (Qn 1)),Qa (Qv 4) (Qd (Qo (Qp (Qq (Qr Qu 0)))))]
def f89_c0:MC:=.r0 f89_r0
def f89_r1:List MO:=[Qa (Qv 5) (Qg 0 (Qn 2)),Qa (Qv 6) (Qf 3 true (Qn 5)),Qa (Qv 7) (Qg 0 (Qn 3)),Qa (Qv 8) (Qf 3 true (Qn 7)),Qa (Qv 9) (Qh 90 [(Qn 6),(Qn 8)]),Qa (Qv 4) (Qd (Qn 9))]
def f89_c1:MC:=.r0 f89_r1
def f89_c4:MC:=.seq f89_c0 (.seq f89_c1 .ret)
attribute [go_sem] f89_r0 f89_r1
theorem f89_k : KK QP 89 f89 [2,3] f89_c4 [(RV.t 4)] 10 := ⟨func89,by kernel_rfl,by kernel_rfl,by kernel_rfl,by kernel_rfl⟩
theorem f89_ok : callable QP 89 = true := by kernel_rfl
theorem f89_in (h : GI QP gp [(RV.t 4)] res 10 f89_c4 args) : Does QP gp 89 args res := f89_k.i f89_ok h
def f90_r0:List MO:=[Qa (Qv 2) (MOp.ibox (Qn 0)),Qa (Qv 3) (MOp.ibox (Qn 1)),Qa (Qv 4) (Qd (Qo (Qp (Qq (Qr Qu 0)))))]
def f90_c0:MC:=.r0 f90_r0
def f90_r1:List MO:=[Qa (Qv 5) (Qf 3 true (Qn 2)),Qa (Qv 6) (Qf 3 true (Qn 3)),Qa (Qv 7) (MOp.eqs false [Qt,Qt,Leaf.s] (Qn 5) (Qn 6))]
def f90_c1:MC:=.r0 f90_r1
def f90_r2:List MO:=[Qa (Qv 4) (Qd (Qo (Qp (Qq (Qr Qu 0)))))]
def f90_c2:MC:=.r0 f90_r2
def f90_r8:List MO:=[Qa (Qv 8) (Qg 0 (Qn 2)),Qa (Qv 9) (Qf 1 false (Qn 8)),Qa (Qv 10) (Qg 0 (Qn 3)),Qa (Qv 11) (Qf 1 false (Qn 10)),Qa (Qv 12) (Qh 111 [(Qn 9),(Qn 11)]),Qa (Qv 13) (Qg 1 (Qn 2)),Qa (Qv 14) (Qf 1 false (Qn 13)),Qa (Qv 15) (Qg 1 (Qn 3)),Qa (Qv 16) (Qf 1 false (Qn 15)),Qa (Qv 17) (Qh 111 [(Qn 14),(Qn 16)]),Qa (Qv 18) (Qg 2 (Qn 2)),Qa (Qv 19) (Qf 1 false (Qn 18)),Qa (Qv 20) (Qg 2 (Qn 3)),Qa (Qv 21) (Qf 1 false (Qn 20)),Qc (Qv 22) (Qh 112 [(Qn 19),(Qn 21)]),Qa (Qv 23) (MOp.bslice 1 [(Qr Qu 0)] 3 [(0,(Qn 12)),(1,(Qn 17)),(2,(Qn 22))]),Qc (Qv 24) (Qh 110 [(Qn 23)]),Qa (Qv 4) (Qd (Qn 24))]
def f90_c8:MC:=.reg true f90_r8
def f90_c12:MC:=.seq f90_c0 (.seq (.seq f90_c1 (.cond (Qn 7) (.seq f90_c2 .ret) .skip)) (.seq f90_c8 .ret))
attribute [go_sem] f90_r0 f90_r1 f90_r2 f90_r8
theorem f90_k : KK QP 90 f90 [2,3] f90_c12 [(RV.t 4)] 25 := ⟨func90,by kernel_rfl,by kernel_rfl,by kernel_rfl,by kernel_rfl⟩
theorem f90_ok : callable QP 90 = true := by kernel_rfl
theorem f90_in (h : GI QP gp [(RV.t 4)] res 25 f90_c12 args) : Does QP gp 90 args res := f90_k.i f90_ok h
def f96_r0:List MO:=[Qa (Qv 1) (MOp.ibox (Qn 0)),Qa (Qv 2) (Qd (Qo (Qp (Qq D.nilF))))]
def f96_c0:MC:=.r0 f96_r0
def f96_r1:List MO:=[Qa (Qv 3) (MOp.mkF (Go.Fn.func 120) [(Qn 1)]),Qa (Qv 2) (Qd (Qn 3))]
def f96_c1:MC:=.r0 f96_r1
def f96_c4:MC:=.seq f96_c0 (.seq f96_c1 .ret)
attribute [go_sem] f96_r0 f96_r1
theorem f96_k : KK QP 96 f96 [1] f96_c4 [(RV.t 2)] 4 := ⟨func96,by kernel_rfl,by kernel_rfl,by kernel_rfl,by kernel_rfl⟩
theorem f96_ok : callable QP 96 = true := by kernel_rfl
theorem f96_in (h : GI QP gp [(RV.t 2)] res 4 f96_c4 args) : Does QP gp 96 args res := f96_k.i f96_ok h
def f97_r0:List MO:=[Qa (Qv 1) (MOp.ibox (Qn 0)),Qa (Qv 2) (Qd (Qo (Qp (Qq (Qs false)))))]
def f97_c0:MC:=.r0 f97_r0
def f97_r1:List MO:=[Qa (Qv 4) (MOp.build [D.nilF,D.nilF,D.nilF] [(0,(1,(Qo (Qp (Qq (D.fn (Go.Fn.func 121) [])))))),(1,(1,(Qo (Qp (Qq (D.fn (Go.Fn.func 122) [])))))),(2,(1,(Qo (Qp (Qq (D.fn (Go.Fn.func 123) []))))))]),Qa (Qv 3) (MOp.alloc [D.nilF,D.nilF,D.nilF]),Qa none (Ql 3 (Qn 3) (Qn 4))]
def f97_c1:MC:=.r0 f97_r1
def f97_r2:List MO:=[Qa (Qv 5) (Qg 0 (Qn 1)),Qa (Qv 6) (Qg 0 (Qn 5)),Qa (Qv 7) (Qf 1 false (Qn 6)),Qa (Qv 8) (Qe Qt Go.BinOp.geq (Qn 7) (Qo (Qp (Qq (Qr Qu 0))))),Qa (Qv 9) (Qd (Qn 8)),Qb 9 true (Qv 10),Qa (Qv 10) (Qg 0 (Qn 1)),Qb 9 true (Qv 11),Qa (Qv 11) (Qg 0 (Qn 10)),Qb 9 true (Qv 12),Qa (Qv 12) (Qf 1 false (Qn 11)),Qb 9 true (Qv 13),Qa (Qv 13) (Qe Qt Go.BinOp.lss (Qn 12) (Qo (Qp (Qq (Qr Qu 3))))),Qa (Qv 14) (Qm (Qn 9) (Qn 13) (Qo (Qp (Qq (Qs false))))),Qa (Qv 15) (Qd (Qn 14)),Qb 15 true (Qv 16),Qa (Qv 16) (Qg 0 (Qn 1)),Qb 15 true (Qv 17),Qa (Qv 17) (Qg 0 (Qn 16)),Qb 15 true (Qv 18),Qa (Qv 18) (Qf 1 false (Qn 17)),Qb 15 true (Qv 19),Qa (Qv 19) (MOp.iadA 3 1 (Qn 3) (Qn 18)),Qb 15 true (Qv 20),Qa (Qv 20) (Qf 1 false (Qn 19)),Qb 15 true (Qv 21),Qa (Qv 21) (Qf 7 true (Qn 1)),Qb 15 true (Qv 22),Qc (Qv 22) (MOp.callv (Qn 20) [(Qn 21)]),Qa (Qv 23) (Qm (Qn 15) (Qn 22) (Qo (Qp (Qq (Qs false))))),Qa (Qv 2) (Qd (Qn 23))]
def f97_c2:MC:=.reg true f97_r2
def f97_c6:MC:=.seq f97_c0 (.seq f97_c1 (.seq f97_c2 .ret))
attribute [go_sem] f97_r0 f97_r1 f97_r2
theorem f97_k : KK QP 97 f97 [1] f97_c6 [(RV.t 2)] 24 := ⟨func97,by kernel_rfl,by kernel_rfl,by kernel_rfl,by kernel_rfl⟩
theorem f97_ok : callable QP 97 = true := by kernel_rfl
theorem f97_in (h : GI QP gp [(RV.t 2)] res 24 f97_c6 args) : Does QP gp 97 args res := f97_k.i f97_ok h
def f100_r0:List MO:=[Qa (Qv 2) (Qd (Qo (Qp (Qq (D.str (ByteArray.mk #[]))))))]
def f100_c0:MC:=.r0 f100_r0
def f100_r1:List MO:=[Qa (Qv 3) (Qd (Qn 0)),Qa (Qv 4) (Qd (Qn 0)),Qa (Qv 5) (Qk Leaf.s (Qn 4)),Qa (Qv 6) (MOp.min (Qn 5) (Qo (Qp (Qq (Qr Qu 100))))),Qa (Qv 7) (MOp.slcS (Qn 3) none (Qv (Qn 6))),Qa (Qv 2) (Qd (Qn 7))]
def f100_c1:MC:=.r0 f100_r1
def f100_c4:MC:=.seq f100_c0 (.seq f100_c1 .ret)
attribute [go_sem] f100_r0 f100_r1
theorem f100_k : KK QP 100 f100 [] f100_c4 [(RV.t 2)] 8 := ⟨func100,by kernel_rfl,by kernel_rfl,by kernel_rfl,by kernel_rfl⟩
theorem f100_ok : callable QP 100 = true := by kernel_rfl
theorem f100_in (h : GI QP gp [(RV.t 2)] res 8 f100_c4 args) : Does QP gp 100 args res := f100_k.i f100_ok h
def f109_r0:List MO:=[Qa (Qv 6) (Qd (Qo (Qp (Qq (Qr Qu 20)))))]
def f109_c0:MC:=.r0 f109_r0
def f109_r1:List MO:=[Qa (Qv 10) (Qd (Qn 6)),Qa (Qv 7) (Qd (Qo (Qp (Qq (Qr Qu 0))))),Qa (Qv 8) (Qd (Qn 10))]
def f109_c1:MC:=.r0 f109_r1
def f109_r2:List MO:=[Qa (Qv 11) (Qd (Qn 8)),Qa (Qv 12) (Qd (Qn 1)),Qa (Qv 13) (Qe Qt Go.BinOp.leq (Qn 11) (Qn 12))]
def f109_c2:MC:=.r0 f109_r2
def f109_r7:List MO:=[Qa (Qv 14) (Qd (Qn 0)),Qa (Qv 15) (Qd (Qn 7)),Qa (Qv 16) (Qd (Qn 8)),Qa (Qv 17) (Qd (Qn 2)),Qa (Qv 18) (Qh 138 [(Qn 14),(Qn 15),(Qn 16),(Qn 17)])]
def f109_c7:MC:=.r0 f109_r7
def f109_r8:List MO:=[Qa (Qv 19) (Qd (Qn 8)),Qa (Qv 7) (Qd (Qn 19))]
def f109_c8:MC:=.r0 f109_r8
def f109_r9:List MO:=[Qa (Qv 20) (Qd (Qn 8)),Qa (Qv 21) (Qd (Qn 6)),Qa (Qv 22) (Qe Qt Go.BinOp.add (Qn 20) (Qn 21)),Qa (Qv 8) (Qd (Qn 22))]
def f109_c9:MC:=.r0 f109_r9
def f109_c13:MC:=.seq (.seq f109_c2 (.cond (Qn 13) .skip (MC.exit 0))) (.blk 1 (.seq f109_c7 (.seq f109_c8 f109_c9)))
def f109_r16:List MO:=[Qa (Qv 23) (Qd (Qn 0)),Qa (Qv 24) (Qd (Qn 7)),Qa (Qv 25) (Qd (Qn 1)),Qa (Qv 26) (Qd (Qn 2)),Qa (Qv 27) (Qh 138 [(Qn 23),(Qn 24),(Qn 25),(Qn 26)])]
def f109_c16:MC:=.r0 f109_r16
def f109_r17:List MO:=[Qa (Qv 28) (Qd (Qn 6)),Qa (Qv 29) (Qd (Qn 1)),Qa (Qv 30) (Qe Qt Go.BinOp.lss (Qn 28) (Qn 29))]
def f109_c17:MC:=.r0 f109_r17
def f109_r22:List MO:=[Qa (Qv 31) (Qd (Qn 6)),Qa (Qv 32) (Qe Qt Go.BinOp.mul (Qo (Qp (Qq (Qr Qu 2)))) (Qn 31)),Qa (Qv 7) (Qd (Qo (Qp (Qq (Qr Qu 0))))),Qa (Qv 8) (Qd (Qn 32))]
def f109_c22:MC:=.r0 f109_r22
def f109_r23:List MO:=[Qa (Qv 33) (Qd (Qn 8)),Qa (Qv 34) (Qd (Qn 1)),Qa (Qv 35) (Qe Qt Go.BinOp.leq (Qn 33) (Qn 34))]
def f109_c23:MC:=.r0 f109_r23
def f109_r28:List MO:=[Qa (Qv 36) (Qd (Qn 0)),Qa (Qv 37) (Qd (Qn 7)),Qa (Qv 38) (Qd (Qn 7)),Qa (Qv 39) (Qd (Qn 6)),Qa (Qv 40) (Qe Qt Go.BinOp.add (Qn 38) (Qn 39)),Qa (Qv 41) (Qd (Qn 8)),Qa (Qv 42) (Qd (Qn 2)),Qa (Qv 43) (Qh 139 [(Qn 36),(Qn 37),(Qn 40),(Qn 41),(Qn 42)])]
def f109_c28:MC:=.r0 f109_r28
def f109_r29:List MO:=[Qa (Qv 44) (Qd (Qn 8)),Qa (Qv 7) (Qd (Qn 44))]
def f109_c29:MC:=.r0 f109_r29
def f109_r30:List MO:=[Qa (Qv 45) (Qd (Qn 8)),Qa (Qv 46) (Qd (Qn 6)),Qa (Qv 47) (Qe Qt Go.BinOp.mul (Qo (Qp (Qq (Qr Qu 2)))) (Qn 46)),Qa (Qv 48) (Qe Qt Go.BinOp.add (Qn 45) (Qn 47)),Qa (Qv 8) (Qd (Qn 48))]
def f109_c30:MC:=.r0 f109_r30
def f109_c34:MC:=.seq (.seq f109_c23 (.cond (Qn 35) .skip (MC.exit 4))) (.blk 5 (.seq f109_c28 (.seq f109_c29 f109_c30)))
def f109_r37:List MO:=[Qa (Qv 49) (Qd (Qn 7)),Qa (Qv 50) (Qd (Qn 6)),Qa (Qv 51) (Qe Qt Go.BinOp.add (Qn 49) (Qn 50)),Qa (Qv 9) (Qd (Qn 51))]
def f109_c37:MC:=.r0 f109_r37
def f109_r38:List MO:=[Qa (Qv 52) (Qd (Qn 9)),Qa (Qv 53) (Qd (Qn 1)),Qa (Qv 54) (Qe Qt Go.BinOp.lss (Qn 52) (Qn 53))]
def f109_c38:MC:=.r0 f109_r38
def f109_r39:List MO:=[Qa (Qv 55) (Qd (Qn 0)),Qa (Qv 56) (Qd (Qn 7)),Qa (Qv 57) (Qd (Qn 9)),Qa (Qv 58) (Qd (Qn 1)),Qa (Qv 59) (Qd (Qn 2)),Qa (Qv 60) (Qh 139 [(Qn 55),(Qn 56),(Qn 57),(Qn 58),(Qn 59)])]
def f109_c39:MC:=.r0 f109_r39
def f109_r44:List MO:=[Qa (Qv 61) (Qd (Qn 6)),Qa (Qv 62) (Qe Qt Go.BinOp.mul (Qn 61) (Qo (Qp (Qq (Qr Qu 2))))),Qa (Qv 6) (Qd (Qn 62))]
def f109_c44:MC:=.r0 f109_r44
def f109_c45:MC:=.seq (.seq f109_c37 (.seq f109_c38 (.cond (Qn 54) f109_c39 .skip))) f109_c44
def f109_c49:MC:=.seq (.seq f109_c17 (.cond (Qn 30) .skip (MC.exit 2))) (.blk 3 (.seq f109_c22 (.seq (.blk 4 (.loop f109_c34)) f109_c45)))
def f109_c54:MC:=.seq f109_c1 (.seq (.blk 0 (.loop f109_c13)) (.seq f109_c16 (.blk 2 (.loop f109_c49))))
def f109_c55:MC:=.seq f109_c0 f109_c54
attribute [go_sem] f109_r0 f109_r1 f109_r2 f109_r7 f109_r8 f109_r9 f109_r16 f109_r17 f109_r22 f109_r23 f109_r28 f109_r29 f109_r30 f109_r37 f109_r38 f109_r39 f109_r44
theorem f109_k : KK QP 109 f109 [] f109_c55 [] 63 := ⟨func109,by kernel_rfl,by kernel_rfl,by kernel_rfl,by kernel_rfl⟩
theorem f109_ok : callable QP 109 = true := by kernel_rfl
theorem f109_tri (h : GT QP gp [] pre R 63 f109_c55 args) : Tri QP gp 109 args pre R := f109_k.t h
def f110_r0:List MO:=[Qa (Qv 2) (Qd (Qo (Qp (Qq (Qr Qu 0)))))]
def f110_c0:MC:=.r0 f110_r0
def f110_r1:List MO:=[Qa (Qv 3) (Qd (Qo (Qp (Qq (Qr Qu 0)))))]
def f110_c1:MC:=.r0 f110_r1
def f110_r2:List MO:=[Qa (Qv 6) (Qd (Qn 0)),Qa (Qv 7) (Qk Qt (Qn 6)),Qa (Qv 8) (Qd (Qo (Qp (Qq (Qr Qu 0)))))]
def f110_c2:MC:=.r0 f110_r2
def f110_r3:List MO:=[Qa (Qv 9) (Qe Qt Go.BinOp.lss (Qn 8) (Qn 7))]
def f110_c3:MC:=.r0 f110_r3
def f110_r7:List MO:=[Qa (Qv 10) (Qj 1 (Qn 6) (Qn 8)),Qa (Qv 11) (Qf 1 false (Qn 10)),Qa (Qv 5) (Qd (Qn 11))]
def f110_c7:MC:=.r0 f110_r7
def f110_r8:List MO:=[Qa (Qv 12) (Qd (Qn 5)),Qa (Qv 13) (Qd (Qn 3)),Qa (Qv 14) (Qe Qt Go.BinOp.neq (Qn 12) (Qn 13))]
def f110_c8:MC:=.r0 f110_r8
def f110_r9:List MO:=[Qa (Qv 15) (Qd (Qn 5)),Qa (Qv 2) (Qd (Qn 15))]
def f110_c9:MC:=.r0 f110_r9
def f110_r17:List MO:=[Qa (Qv 16) (Qe Qt Go.BinOp.add (Qn 8) (Qo (Qp (Qq (Qr Qu 1))))),Qa (Qv 8) (Qd (Qn 16))]
def f110_c17:MC:=.r0 f110_r17
def f110_c18:MC:=.seq (.blk 1 (.seq f110_c7 (.seq f110_c8 (.cond (Qn 14) (.seq f110_c9 .ret) .skip)))) f110_c17
def f110_r24:List MO:=[Qa (Qv 17) (Qd (Qn 3)),Qa (Qv 2) (Qd (Qn 17))]
def f110_c24:MC:=.r0 f110_r24
def f110_c27:MC:=.seq (.seq f110_c2 (.blk 0 (.loop (.seq f110_c3 (.seq (.cond (Qn 9) .skip (MC.exit 0)) f110_c18))))) (.seq f110_c24 .ret)
def f110_c29:MC:=.seq f110_c0 (.seq f110_c1 f110_c27)
attribute [go_sem] f110_r0 f110_r1 f110_r2 f110_r3 f110_r7 f110_r8 f110_r9 f110_r17 f110_r24
theorem f110_k : KK QP 110 f110 [] f110_c29 [(RV.t 2)] 18 := ⟨func110,by kernel_rfl,by kernel_rfl,by kernel_rfl,by kernel_rfl⟩
theorem f110_ok : callable QP 110 = true := by kernel_rfl
theorem f110_in (h : GI QP gp [(RV.t 2)] res 18 f110_c29 args) : Does QP gp 110 args res := f110_k.i f110_ok h
def f111_r0:List MO:=[Qa (Qv 4) (Qd (Qo (Qp (Qq (Qr Qu 0)))))]
def f111_c0:MC:=.r0 f111_r0
def f111_r1:List MO:=[Qa (Qv 7) (Qd (Qn 0)),Qa (Qv 8) (Qh 140 [(Qn 7)]),Qa (Qv 5) (Qd (Qn 8))]
def f111_c1:MC:=.r0 f111_r1
def f111_r2:List MO:=[Qa (Qv 9) (Qd (Qn 1)),Qa (Qv 10) (Qh 140 [(Qn 9)]),Qa (Qv 6) (Qd (Qn 10))]
def f111_c2:MC:=.r0 f111_r2
def f111_r3:List MO:=[Qa (Qv 11) (Qd (Qn 5))]
def f111_c3:MC:=.r0 f111_r3
def f111_r4:List MO:=[Qa (Qv 12) (Qd (Qn 6))]
def f111_c4:MC:=.r0 f111_r4
def f111_r5:List MO:=[Qa (Qv 4) (Qd (Qo (Qp (Qq (Qr Qu 0)))))]
def f111_c5:MC:=.r0 f111_r5
def f111_r11:List MO:=[Qa (Qv 4) (Qd (Qo (Qp (Qq (Qr Qu (-1))))))]
def f111_c11:MC:=.r0 f111_r11
def f111_c17:MC:=.seq f111_c3 (.cond (Qn 11) (.seq (.seq f111_c4 (.cond (Qn 12) (.seq f111_c5 .ret) .skip)) (.seq f111_c11 .ret)) .skip)
def f111_r18:List MO:=[Qa (Qv 13) (Qd (Qn 6))]
def f111_c18:MC:=.r0 f111_r18
def f111_r19:List MO:=[Qa (Qv 4) (Qd (Qo (Qp (Qq (Qr Qu 1)))))]
def f111_c19:MC:=.r0 f111_r19
def f111_r25:List MO:=[Qa (Qv 14) (Qd (Qn 0)),Qa (Qv 15) (Qd (Qn 1)),Qa (Qv 16) (Qe Qt Go.BinOp.lss (Qn 14) (Qn 15))]
def f111_c25:MC:=.r0 f111_r25
def f111_r26:List MO:=[Qa (Qv 4) (Qd (Qo (Qp (Qq (Qr Qu (-1))))))]
def f111_c26:MC:=.r0 f111_r26
def f111_r32:List MO:=[Qa (Qv 17) (Qd (Qn 0)),Qa (Qv 18) (Qd (Qn 1)),Qa (Qv 19) (Qe Qt Go.BinOp.gtr (Qn 17) (Qn 18))]
def f111_c32:MC:=.r0 f111_r32
def f111_r33:List MO:=[Qa (Qv 4) (Qd (Qo (Qp (Qq (Qr Qu 1)))))]
def f111_c33:MC:=.r0 f111_r33
def f111_r39:List MO:=[Qa (Qv 4) (Qd (Qo (Qp (Qq (Qr Qu 0)))))]
def f111_c39:MC:=.r0 f111_r39
def f111_c43:MC:=.seq (.seq f111_c25 (.cond (Qn 16) (.seq f111_c26 .ret) .skip)) (.seq (.seq f111_c32 (.cond (Qn 19) (.seq f111_c33 .ret) .skip)) (.seq f111_c39 .ret))
def f111_c45:MC:=.seq f111_c17 (.seq (.seq f111_c18 (.cond (Qn 13) (.seq f111_c19 .ret) .skip)) f111_c43)
def f111_c48:MC:=.seq f111_c0 (.seq f111_c1 (.seq f111_c2 f111_c45))
attribute [go_sem] f111_r0 f111_r1 f111_r2 f111_r3 f111_r4 f111_r5 f111_r11 f111_r18 f111_r19 f111_r25 f111_r26 f111_r32 f111_r33 f111_r39
theorem f111_k : KK QP 111 f111 [] f111_c48 [(RV.t 4)] 20 := ⟨func111,by kernel_rfl,by kernel_rfl,by kernel_rfl,by kernel_rfl⟩
theorem f111_ok : callable QP 111 = true := by kernel_rfl
theorem f111_in (h : GI QP gp [(RV.t 4)] res 20 f111_c48 args) : Does QP gp 111 args res := f111_k.i f111_ok h
def f112_r0:List MO:=[Qa (Qv 4) (Qd (Qo (Qp (Qq (Qr Qu 0)))))]
def f112_c0:MC:=.r0 f112_r0
def f112_r1:List MO:=[Qa (Qv 7) (Qd (Qn 0)),Qa (Qv 8) (Qh 141 [(Qn 7)]),Qa (Qv 5) (Qd (Qn 8))]
def f112_c1:MC:=.r0 f112_r1
def f112_r2:List MO:=[Qa (Qv 9) (Qd (Qn 1)),Qa (Qv 10) (Qh 141 [(Qn 9)]),Qa (Qv 6) (Qd (Qn 10))]
def f112_c2:MC:=.r0 f112_r2
def f112_r3:List MO:=[Qa (Qv 11) (Qd (Qn 5))]
def f112_c3:MC:=.r0 f112_r3
def f112_r4:List MO:=[Qa (Qv 12) (Qd (Qn 6))]
def f112_c4:MC:=.r0 f112_r4
def f112_r5:List MO:=[Qa (Qv 4) (Qd (Qo (Qp (Qq (Qr Qu 0)))))]
def f112_c5:MC:=.r0 f112_r5
def f112_r11:List MO:=[Qa (Qv 4) (Qd (Qo (Qp (Qq (Qr Qu (-1))))))]
def f112_c11:MC:=.r0 f112_r11
def f112_c17:MC:=.seq f112_c3 (.cond (Qn 11) (.seq (.seq f112_c4 (.cond (Qn 12) (.seq f112_c5 .ret) .skip)) (.seq f112_c11 .ret)) .skip)
def f112_r18:List MO:=[Qa (Qv 13) (Qd (Qn 6))]
def f112_c18:MC:=.r0 f112_r18
def f112_r19:List MO:=[Qa (Qv 4) (Qd (Qo (Qp (Qq (Qr Qu 1)))))]
def f112_c19:MC:=.r0 f112_r19
def f112_r25:List MO:=[Qa (Qv 14) (Qd (Qn 0)),Qa (Qv 15) (Qd (Qn 1)),Qa (Qv 16) (Qe Leaf.s Go.BinOp.lss (Qn 14) (Qn 15))]
def f112_c25:MC:=.r0 f112_r25
def f112_r26:List MO:=[Qa (Qv 4) (Qd (Qo (Qp (Qq (Qr Qu (-1))))))]
def f112_c26:MC:=.r0 f112_r26
def f112_r32:List MO:=[Qa (Qv 17) (Qd (Qn 0)),Qa (Qv 18) (Qd (Qn 1)),Qa (Qv 19) (Qe Leaf.s Go.BinOp.gtr (Qn 17) (Qn 18))]
def f112_c32:MC:=.r0 f112_r32
def f112_r33:List MO:=[Qa (Qv 4) (Qd (Qo (Qp (Qq (Qr Qu 1)))))]
def f112_c33:MC:=.r0 f112_r33
def f112_r39:List MO:=[Qa (Qv 4) (Qd (Qo (Qp (Qq (Qr Qu 0)))))]
def f112_c39:MC:=.r0 f112_r39
def f112_c43:MC:=.seq (.seq f112_c25 (.cond (Qn 16) (.seq f112_c26 .ret) .skip)) (.seq (.seq f112_c32 (.cond (Qn 19) (.seq f112_c33 .ret) .skip)) (.seq f112_c39 .ret))
def f112_c45:MC:=.seq f112_c17 (.seq (.seq f112_c18 (.cond (Qn 13) (.seq f112_c19 .ret) .skip)) f112_c43)
def f112_c48:MC:=.seq f112_c0 (.seq f112_c1 (.seq f112_c2 f112_c45))
attribute [go_sem] f112_r0 f112_r1 f112_r2 f112_r3 f112_r4 f112_r5 f112_r11 f112_r18 f112_r19 f112_r25 f112_r26 f112_r32 f112_r33 f112_r39
theorem f112_k : KK QP 112 f112 [] f112_c48 [(RV.t 4)] 20 := ⟨func112,by kernel_rfl,by kernel_rfl,by kernel_rfl,by kernel_rfl⟩
theorem f112_ok : callable QP 112 = true := by kernel_rfl
theorem f112_in (h : GI QP gp [(RV.t 4)] res 20 f112_c48 args) : Does QP gp 112 args res := f112_k.i f112_ok h
def f120_r1:List MO:=[Qa (Qv 5) (Qg 1 (Qn 1)),Qa (Qv 6) (Qf 1 false (Qn 5)),Qa (Qv 7) (Qk Qt (Qn 6)),Qa (Qv 8) (Qd (Qo (Qp (Qq (Qr Qu 0)))))]
def f120_c1:MC:=.r0 f120_r1
def f120_r2:List MO:=[Qa (Qv 9) (Qe Qt Go.BinOp.lss (Qn 8) (Qn 7))]
def f120_c2:MC:=.r0 f120_r2
def f120_r6:List MO:=[Qa (Qv 10) (Qd (Qn 8)),Qa (Qv 11) (Qj 6 (Qn 6) (Qn 8)),Qa (Qv 12) (Qf 6 true (Qn 11)),Qa (Qv 4) (MOp.alloc [(Qr Qu 0),(Qr Qu 0),(Qr Qu 0),(D.str (ByteArray.mk #[])),(D.sl []),(D.sl [])]),Qa (Qv 3) (Qd (Qn 10)),Qa none (Ql 6 (Qn 4) (Qn 12))]
def f120_c6:MC:=.r0 f120_r6
def f120_r7:List MO:=[Qa (Qv 13) (Qd (Qn 0)),Qa (Qv 14) (Qd (Qn 3)),Qa (Qv 15) (Qf 6 true (Qn 4)),Qa (Qv 16) (Qg 1 (Qn 1)),Qa (Qv 17) (Qf 1 false (Qn 16)),Qa (Qv 18) (Qk Qt (Qn 17)),Qa (Qv 19) (MOp.build [(Qr Qu 0),(Qr Qu 0),(Qr Qu 0),(D.str (ByteArray.mk #[])),(D.sl []),(D.sl []),(Qr Qu 0)] [(0,(6,(Qn 15))),(6,(1,(Qn 18)))]),Qa (Qv 20) (MOp.callv (Qn 13) [(Qn 14),(Qn 19)]),Qa (Qv 21) (MOp.not (Qn 20))]
def f120_c7:MC:=.r0 f120_r7
def f120_r14:List MO:=[Qa (Qv 22) (Qe Qt Go.BinOp.add (Qn 8) (Qo (Qp (Qq (Qr Qu 1))))),Qa (Qv 8) (Qd (Qn 22))]
def f120_c14:MC:=.r0 f120_r14
def f120_c17:MC:=.seq f120_c2 (.seq (.cond (Qn 9) .skip (MC.exit 0)) (.seq (.blk 1 (.seq f120_c6 (.seq f120_c7 (.cond (Qn 21) (MC.exit 0) .skip)))) f120_c14))
def f120_c22:MC:=.scope (.seq .skip (.seq f120_c1 (.blk 0 (.loop f120_c17))))
attribute [go_sem] f120_r1 f120_r2 f120_r6 f120_r7 f120_r14
theorem f120_k : KK QP 120 f120 [] f120_c22 [] 23 := ⟨func120,by kernel_rfl,by kernel_rfl,by kernel_rfl,by kernel_rfl⟩
theorem f120_ok : callable QP 120 = true := by kernel_rfl
theorem f120_tri (h : GT QP gp [] pre R 23 f120_c22 args) : Tri QP gp 120 args pre R := f120_k.t h
def f121_r0:List MO:=[Qa (Qv 1) (MOp.ibox (Qn 0)),Qa (Qv 2) (Qd (Qo (Qp (Qq (Qs false)))))]
def f121_c0:MC:=.r0 f121_r0
def f121_r1:List MO:=[Qa (Qv 3) (Qg 0 (Qn 1)),Qa (Qv 4) (Qg 1 (Qn 3)),Qa (Qv 5) (Qf 3 true (Qn 4)),Qa (Qv 6) (Qh 131 [(Qn 5)]),Qa (Qv 7) (Qg 0 (Qn 1)),Qa (Qv 8) (Qg 4 (Qn 7)),Qa (Qv 9) (Qf 1 false (Qn 8)),Qa (Qv 10) (Qk Qt (Qn 9)),Qa (Qv 11) (Qe Qt Go.BinOp.eql (Qn 10) (Qo (Qp (Qq (Qr Qu 0))))),Qa (Qv 12) (Qg 0 (Qn 1)),Qa (Qv 13) (Qg 5 (Qn 12)),Qa (Qv 14) (Qf 1 false (Qn 13)),Qa (Qv 15) (Qk Qt (Qn 14)),Qa (Qv 16) (Qe Qt Go.BinOp.eql (Qn 15) (Qo (Qp (Qq (Qr Qu 0))))),Qa (Qv 17) (MOp.bslice 1 [(Qs false)] 3 [(0,(Qn 6)),(1,(Qn 11)),(2,(Qn 16))]),Qc (Qv 18) (Qh 145 [(Qn 17)]),Qa (Qv 2) (Qd (Qn 18))]
def f121_c1:MC:=.reg true f121_r1
def f121_c4:MC:=.seq f121_c0 (.seq f121_c1 .ret)
attribute [go_sem] f121_r0 f121_r1
theorem f121_k : KK QP 121 f121 [1] f121_c4 [(RV.t 2)] 19 := ⟨func121,by kernel_rfl,by kernel_rfl,by kernel_rfl,by kernel_rfl⟩
theorem f121_ok : callable QP 121 = true := by kernel_rfl
theorem f121_in (h : GI QP gp [(RV.t 2)] res 19 f121_c4 args) : Does QP gp 121 args res := f121_k.i f121_ok h
def f122_r0:List MO:=[Qa (Qv 1) (MOp.ibox (Qn 0)),Qa (Qv 2) (Qd (Qo (Qp (Qq (Qs false)))))]
def f122_c0:MC:=.r0 f122_r0
def f122_r1:List MO:=[Qa (Qv 3) (Qg 0 (Qn 1)),Qa (Qv 4) (Qg 1 (Qn 3)),Qa (Qv 5) (Qf 3 true (Qn 4)),Qa (Qv 6) (MOp.build [(Qr Qu 0),(Qr Qu 0),(D.str (ByteArray.mk #[]))] []),Qa (Qv 7) (MOp.eqs false [Qt,Qt,Leaf.s] (Qn 5) (Qn 6)),Qa (Qv 8) (Qg 0 (Qn 1)),Qa (Qv 9) (Qg 4 (Qn 8)),Qa (Qv 10) (Qf 1 false (Qn 9)),Qa (Qv 11) (Qk Qt (Qn 10)),Qa (Qv 12) (Qe Qt Go.BinOp.eql (Qn 11) (Qo (Qp (Qq (Qr Qu 0))))),Qa (Qv 13) (Qf 7 true (Qn 1)),Qa (Qv 14) (Qh 146 [(Qn 13)]),Qa (Qv 15) (MOp.bslice 1 [(Qs false)] 3 [(0,(Qn 7)),(1,(Qn 12)),(2,(Qn 14))]),Qc (Qv 16) (Qh 145 [(Qn 15)]),Qa (Qv 2) (Qd (Qn 16))]
def f122_c1:MC:=.reg true f122_r1
def f122_c4:MC:=.seq f122_c0 (.seq f122_c1 .ret)
attribute [go_sem] f122_r0 f122_r1
theorem f122_k : KK QP 122 f122 [1] f122_c4 [(RV.t 2)] 17 := ⟨func122,by kernel_rfl,by kernel_rfl,by kernel_rfl,by kernel_rfl⟩
theorem f122_ok : callable QP 122 = true := by kernel_rfl
theorem f122_in (h : GI QP gp [(RV.t 2)] res 17 f122_c4 args) : Does QP gp 122 args res := f122_k.i f122_ok h
def f123_r0:List MO:=[Qa (Qv 1) (MOp.ibox (Qn 0)),Qa (Qv 2) (Qd (Qo (Qp (Qq (Qs false)))))]
def f123_c0:MC:=.r0 f123_r0
def f123_r1:List MO:=[Qa (Qv 3) (Qg 0 (Qn 1)),Qa (Qv 4) (Qg 1 (Qn 3)),Qa (Qv 5) (Qf 3 true (Qn 4)),Qa (Qv 6) (MOp.build [(Qr Qu 0),(Qr Qu 0),(D.str (ByteArray.mk #[]))] []),Qa (Qv 7) (MOp.eqs false [Qt,Qt,Leaf.s] (Qn 5) (Qn 6)),Qa (Qv 8) (Qf 7 true (Qn 1)),Qa (Qv 9) (Qh 87 [(Qn 8)]),Qa (Qv 10) (Qf 7 true (Qn 1)),Qa (Qv 11) (Qh 147 [(Qn 10)]),Qa (Qv 12) (Qf 7 true (Qn 1)),Qa (Qv 13) (Qh 146 [(Qn 12)]),Qa (Qv 14) (MOp.bslice 1 [(Qs false)] 4 [(0,(Qn 7)),(1,(Qn 9)),(2,(Qn 11)),(3,(Qn 13))]),Qc (Qv 15) (Qh 145 [(Qn 14)]),Qa (Qv 2) (Qd (Qn 15))]
def f123_c1:MC:=.reg true f123_r1
def f123_c4:MC:=.seq f123_c0 (.seq f123_c1 .ret)
attribute [go_sem] f123_r0 f123_r1
theorem f123_k : KK QP 123 f123 [1] f123_c4 [(RV.t 2)] 16 := ⟨func123,by kernel_rfl,by kernel_rfl,by kernel_rfl,by kernel_rfl⟩
theorem f123_ok : callable QP 123 = true := by kernel_rfl
theorem f123_in (h : GI QP gp [(RV.t 2)] res 16 f123_c4 args) : Does QP gp 123 args res := f123_k.i f123_ok h
def f131_r0:List MO:=[Qa (Qv 1) (MOp.ibox (Qn 0)),Qa (Qv 2) (Qd (Qo (Qp (Qq (Qs false)))))]
def f131_c0:MC:=.r0 f131_r0
def f131_r1:List MO:=[Qa (Qv 3) (Qg 0 (Qn 1)),Qa (Qv 4) (Qf 1 false (Qn 3))]
def f131_c1:MC:=.r0 f131_r1
def f131_r2:List MO:=[Qa (Qv 6) (Qe Qt Go.BinOp.eql (Qn 4) (Qo (Qp (Qq (Qr Qu 0))))),Qa (Qv 5) (Qd (Qn 6))]
def f131_c2:MC:=.r0 f131_r2
def f131_r3:List MO:=[Qa (Qv 7) (Qf 3 true (Qn 1)),Qa (Qv 8) (MOp.build [(Qr Qu 0),(Qr Qu 0),(D.str (ByteArray.mk #[]))] []),Qa (Qv 9) (MOp.eqs false [Qt,Qt,Leaf.s] (Qn 7) (Qn 8)),Qa (Qv 2) (Qd (Qn 9))]
def f131_c3:MC:=.r0 f131_r3
def f131_r6:List MO:=[Qa (Qv 11) (Qe Qt Go.BinOp.eql (Qn 4) (Qo (Qp (Qq (Qr Qu 1))))),Qa (Qv 10) (Qd (Qn 11))]
def f131_c6:MC:=.r0 f131_r6
def f131_r7:List MO:=[Qa (Qv 12) (Qg 2 (Qn 1)),Qa (Qv 13) (Qf 1 false (Qn 12)),Qa (Qv 14) (Qe Leaf.s Go.BinOp.eql (Qn 13) (Qo (Qp (Qq (D.str (ByteArray.mk #[])))))),Qa (Qv 15) (Qd (Qn 14)),Qb 15 true (Qv 16),Qa (Qv 16) (Qg 1 (Qn 1)),Qb 15 true (Qv 17),Qa (Qv 17) (Qf 1 false (Qn 16)),Qb 15 true (Qv 18),Qa (Qv 18) (Qe Qt Go.BinOp.eql (Qn 17) (Qo (Qp (Qq (Qr Qu 0))))),Qb 15 true (Qv 19),Qa (Qv 19) (Qd (Qn 18)),Qb 19 false (Qv 20),Qa (Qv 20) (Qg 1 (Qn 1)),Qb 19 false (Qv 21),Qa (Qv 21) (Qf 1 false (Qn 20)),Qb 19 false (Qv 22),Qa (Qv 22) (Qe Qt Go.BinOp.eql (Qn 21) (Qo (Qp (Qq (Qr Qu 1))))),Qb 15 true (Qv 23),Qa (Qv 23) (Qm (Qn 19) (Qo (Qp (Qq (Qs true)))) (Qn 22)),Qa (Qv 24) (Qm (Qn 15) (Qn 23) (Qo (Qp (Qq (Qs false))))),Qa (Qv 2) (Qd (Qn 24))]
def f131_c7:MC:=.r0 f131_r7
def f131_r10:List MO:=[Qa (Qv 26) (Qe Qt Go.BinOp.eql (Qn 4) (Qo (Qp (Qq (Qr Qu 2))))),Qa (Qv 25) (Qd (Qn 26))]
def f131_c10:MC:=.r0 f131_r10
def f131_r11:List MO:=[Qa (Qv 27) (Qg 2 (Qn 1)),Qa (Qv 28) (Qf 1 false (Qn 27)),Qa (Qv 29) (Qe Leaf.s Go.BinOp.eql (Qn 28) (Qo (Qp (Qq (D.str (ByteArray.mk #[])))))),Qa (Qv 30) (Qd (Qn 29)),Qb 30 true (Qv 31),Qa (Qv 31) (Qg 1 (Qn 1)),Qb 30 true (Qv 32),Qa (Qv 32) (Qf 1 false (Qn 31)),Qb 30 true (Qv 33),Qa (Qv 33) (Qe Qt Go.BinOp.geq (Qn 32) (Qo (Qp (Qq (Qr Qu (-999999999999999)))))),Qa (Qv 34) (Qm (Qn 30) (Qn 33) (Qo (Qp (Qq (Qs false))))),Qa (Qv 35) (Qd (Qn 34)),Qb 35 true (Qv 36),Qa (Qv 36) (Qg 1 (Qn 1)),Qb 35 true (Qv 37),Qa (Qv 37) (Qf 1 false (Qn 36)),Qb 35 true (Qv 38),Qa (Qv 38) (Qe Qt Go.BinOp.leq (Qn 37) (Qo (Qp (Qq (Qr Qu 999999999999999))))),Qa (Qv 39) (Qm (Qn 35) (Qn 38) (Qo (Qp (Qq (Qs false))))),Qa (Qv 2) (Qd (Qn 39))]
def f131_c11:MC:=.r0 f131_r11
def f131_r14:List MO:=[Qa (Qv 41) (Qe Qt Go.BinOp.eql (Qn 4) (Qo (Qp (Qq (Qr Qu 3))))),Qa (Qv 40) (Qd (Qn 41))]
def f131_c14:MC:=.r0 f131_r14
def f131_r15:List MO:=[Qa (Qv 42) (Qg 1 (Qn 1)),Qa (Qv 43) (Qf 1 false (Qn 42)),Qa (Qv 44) (Qe Qt Go.BinOp.eql (Qn 43) (Qo (Qp (Qq (Qr Qu 0))))),Qa (Qv 45) (Qd (Qn 44)),Qb 45 true (Qv 46),Qa (Qv 46) (Qg 2 (Qn 1)),Qb 45 true (Qv 47),Qa (Qv 47) (Qf 1 false (Qn 46)),Qb 45 true (Qv 48),Qa (Qv 48) (Qh 151 [(Qn 47)]),Qa (Qv 49) (Qm (Qn 45) (Qn 48) (Qo (Qp (Qq (Qs false))))),Qa (Qv 2) (Qd (Qn 49))]
def f131_c15:MC:=.r0 f131_r15
def f131_c22:MC:=.seq f131_c10 (.cond (Qn 25) (.seq f131_c11 .ret) (.seq f131_c14 (.cond (Qn 40) (.seq f131_c15 .ret) .skip)))
def f131_c25:MC:=.cond (Qn 5) (.seq f131_c3 .ret) (.seq f131_c6 (.cond (Qn 10) (.seq f131_c7 .ret) f131_c22))
def f131_r29:List MO:=[Qa (Qv 2) (Qd (Qo (Qp (Qq (Qs false)))))]
def f131_c29:MC:=.r0 f131_r29
def f131_c32:MC:=.seq (.seq f131_c1 (.blk 0 (.seq f131_c2 f131_c25))) (.seq f131_c29 .ret)
def f131_c33:MC:=.seq f131_c0 f131_c32
attribute [go_sem] f131_r0 f131_r1 f131_r2 f131_r3 f131_r6 f131_r7 f131_r10 f131_r11 f131_r14 f131_r15 f131_r29
theorem f131_k : KK QP 131 f131 [1] f131_c33 [(RV.t 2)] 50 := ⟨func131,by kernel_rfl,by kernel_rfl,by kernel_rfl,by kernel_rfl⟩
theorem f131_ok : callable QP 131 = true := by kernel_rfl
theorem f131_in (h : GI QP gp [(RV.t 2)] res 50 f131_c33 args) : Does QP gp 131 args res := f131_k.i f131_ok h
def f138_r0:List MO:=[Qa (Qv 10) (Qd (Qn 1)),Qa (Qv 11) (Qe Qt Go.BinOp.add (Qn 10) (Qo (Qp (Qq (Qr Qu 1))))),Qa (Qv 8) (Qd (Qn 11))]
def f138_c0:MC:=.r0 f138_r0
def f138_r1:List MO:=[Qa (Qv 12) (Qd (Qn 8)),Qa (Qv 13) (Qd (Qn 2)),Qa (Qv 14) (Qe Qt Go.BinOp.lss (Qn 12) (Qn 13))]
def f138_c1:MC:=.r0 f138_r1
def f138_r6:List MO:=[Qa (Qv 17) (Qd (Qn 8)),Qa (Qv 9) (Qd (Qn 17))]
def f138_c6:MC:=.r0 f138_r6
def f138_r7:List MO:=[Qa (Qv 18) (Qd (Qn 9)),Qa (Qv 19) (Qd (Qn 1)),Qa (Qv 20) (Qe Qt Go.BinOp.gtr (Qn 18) (Qn 19)),Qa (Qv 21) (Qd (Qn 20)),Qb 21 true (Qv 22),Qa (Qv 22) (Qd (Qn 3)),Qb 21 true (Qv 23),Qa (Qv 23) (Qd (Qn 0)),Qb 21 true (Qv 24),Qa (Qv 24) (Qd (Qn 9)),Qb 21 true (Qv 25),Qa (Qv 25) (Qj 4 (Qn 23) (Qn 24)),Qb 21 true (Qv 26),Qa (Qv 26) (Qf 4 true (Qn 25)),Qb 21 true (Qv 27),Qa (Qv 27) (Qd (Qn 0)),Qb 21 true (Qv 28),Qa (Qv 28) (Qd (Qn 9)),Qb 21 true (Qv 29),Qa (Qv 29) (Qe Qt Go.BinOp.sub (Qn 28) (Qo (Qp (Qq (Qr Qu 1))))),Qb 21 true (Qv 30),Qa (Qv 30) (Qj 4 (Qn 27) (Qn 29)),Qb 21 true (Qv 31),Qa (Qv 31) (Qf 4 true (Qn 30)),Qb 21 true (Qv 32),Qc (Qv 32) (MOp.callv (Qn 22) [(Qn 26),(Qn 31)]),Qb 21 true (Qv 33),Qa (Qv 33) (Qe Qt Go.BinOp.lss (Qn 32) (Qo (Qp (Qq (Qr Qu 0))))),Qa (Qv 34) (Qm (Qn 21) (Qn 33) (Qo (Qp (Qq (Qs false)))))]
def f138_c7:MC:=.reg true f138_r7
def f138_r12:List MO:=[Qa (Qv 37) (Qd (Qn 0)),Qa (Qv 38) (Qd (Qn 9)),Qa (Qv 39) (Qd (Qn 0)),Qa (Qv 40) (Qd (Qn 9)),Qa (Qv 41) (Qe Qt Go.BinOp.sub (Qn 40) (Qo (Qp (Qq (Qr Qu 1))))),Qa (Qv 42) (Qd (Qn 0)),Qa (Qv 43) (Qd (Qn 9)),Qa (Qv 44) (Qe Qt Go.BinOp.sub (Qn 43) (Qo (Qp (Qq (Qr Qu 1))))),Qa (Qv 45) (Qj 4 (Qn 42) (Qn 44)),Qa (Qv 46) (Qf 4 true (Qn 45)),Qa (Qv 47) (Qd (Qn 0)),Qa (Qv 48) (Qd (Qn 9)),Qa (Qv 49) (Qj 4 (Qn 47) (Qn 48)),Qa (Qv 50) (Qf 4 true (Qn 49)),Qa (Qv 51) (Qj 4 (Qn 37) (Qn 38)),Qa none (Ql 4 (Qn 51) (Qn 46)),Qa (Qv 52) (Qj 4 (Qn 39) (Qn 41)),Qa none (Ql 4 (Qn 52) (Qn 50))]
def f138_c12:MC:=.reg true f138_r12
def f138_r14:List MO:=[Qa (Qv 35) (Qd (Qn 9)),Qa (Qv 36) (Qe Qt Go.BinOp.sub (Qn 35) (Qo (Qp (Qq (Qr Qu 1))))),Qa (Qv 9) (Qd (Qn 36))]
def f138_c14:MC:=.r0 f138_r14
def f138_c19:MC:=.seq f138_c6 (.blk 2 (.loop (.seq (.seq f138_c7 (.cond (Qn 34) .skip (MC.exit 2))) (.seq (.blk 3 f138_c12) f138_c14))))
def f138_r21:List MO:=[Qa (Qv 15) (Qd (Qn 8)),Qa (Qv 16) (Qe Qt Go.BinOp.add (Qn 15) (Qo (Qp (Qq (Qr Qu 1))))),Qa (Qv 8) (Qd (Qn 16))]
def f138_c21:MC:=.r0 f138_r21
def f138_c26:MC:=.seq f138_c0 (.blk 0 (.loop (.seq (.seq f138_c1 (.cond (Qn 14) .skip (MC.exit 0))) (.seq (.blk 1 f138_c19) f138_c21))))
attribute [go_sem] f138_r0 f138_r1 f138_r6 f138_r7 f138_r12 f138_r14 f138_r21
theorem f138_k : KK QP 138 f138 [] f138_c26 [] 53 := ⟨func138,by kernel_rfl,by kernel_rfl,by kernel_rfl,by kernel_rfl⟩
theorem f138_ok : callable QP 138 = true := by kernel_rfl
theorem f138_tri (h : GT QP gp [] pre R 53 f138_c26 args) : Tri QP gp 138 args pre R := f138_k.t h
def f140_r0:List MO:=[Qa (Qv 2) (Qd (Qo (Qp (Qq (Qs false)))))]
def f140_c0:MC:=.r0 f140_r0
def f140_r1:List MO:=[Qa (Qv 3) (Qd (Qn 0)),Qa (Qv 4) (Qd (Qn 0)),Qa (Qv 5) (Qe Qt Go.BinOp.neq (Qn 3) (Qn 4)),Qa (Qv 2) (Qd (Qn 5))]
def f140_c1:MC:=.r0 f140_r1
def f140_c4:MC:=.seq f140_c0 (.seq f140_c1 .ret)
attribute [go_sem] f140_r0 f140_r1
theorem f140_k : KK QP 140 f140 [] f140_c4 [(RV.t 2)] 6 := ⟨func140,by kernel_rfl,by kernel_rfl,by kernel_rfl,by kernel_rfl⟩
theorem f140_ok : callable QP 140 = true := by kernel_rfl
theorem f140_in (h : GI QP gp [(RV.t 2)] res 6 f140_c4 args) : Does QP gp 140 args res := f140_k.i f140_ok h
def f141_r0:List MO:=[Qa (Qv 2) (Qd (Qo (Qp (Qq (Qs false)))))]
def f141_c0:MC:=.r0 f141_r0
def f141_r1:List MO:=[Qa (Qv 3) (Qd (Qn 0)),Qa (Qv 4) (Qd (Qn 0)),Qa (Qv 5) (Qe Leaf.s Go.BinOp.neq (Qn 3) (Qn 4)),Qa (Qv 2) (Qd (Qn 5))]
def f141_c1:MC:=.r0 f141_r1
def f141_c4:MC:=.seq f141_c0 (.seq f141_c1 .ret)
attribute [go_sem] f141_r0 f141_r1
theorem f141_k : KK QP 141 f141 [] f141_c4 [(RV.t 2)] 6 := ⟨func141,by kernel_rfl,by kernel_rfl,by kernel_rfl,by kernel_rfl⟩
theorem f141_ok : callable QP 141 = true := by kernel_rfl
theorem f141_in (h : GI QP gp [(RV.t 2)] res 6 f141_c4 args) : Does QP gp 141 args res := f141_k.i f141_ok h
def f145_r0:List MO:=[Qa (Qv 2) (Qd (Qo (Qp (Qq (Qs false)))))]
def f145_c0:MC:=.r0 f145_r0
def f145_r1:List MO:=[Qa (Qv 3) (Qd (Qn 0)),Qa (Qv 4) (Qh 157 [(Qn 3),(Qo (Qp (Qq (Qs false))))]),Qa (Qv 5) (MOp.not (Qn 4)),Qa (Qv 2) (Qd (Qn 5))]
def f145_c1:MC:=.r0 f145_r1
def f145_c4:MC:=.seq f145_c0 (.seq f145_c1 .ret)
attribute [go_sem] f145_r0 f145_r1
theorem f145_k : KK QP 145 f145 [] f145_c4 [(RV.t 2)] 6 := ⟨func145,by kernel_rfl,by kernel_rfl,by kernel_rfl,by kernel_rfl⟩
theorem f145_ok : callable QP 145 = true := by kernel_rfl
theorem f145_in (h : GI QP gp [(RV.t 2)] res 6 f145_c4 args) : Does QP gp 145 args res := f145_k.i f145_ok h
def f146_r0:List MO:=[Qa (Qv 1) (MOp.ibox (Qn 0)),Qa (Qv 2) (Qd (Qo (Qp (Qq (Qs false)))))]
def f146_c0:MC:=.r0 f146_r0
def f146_r1:List MO:=[Qa (Qv 4) (MOp.mkF (Go.Fn.func 158) [(Qn 1)]),Qa (Qv 3) (Qd (Qn 4))]
def f146_c1:MC:=.r0 f146_r1
def f146_r2:List MO:=[Qa (Qv 5) (Qg 0 (Qn 1)),Qa (Qv 6) (Qg 5 (Qn 5)),Qa (Qv 7) (Qf 1 false (Qn 6)),Qa (Qv 8) (Qd (Qn 3)),Qa (Qv 9) (Qh 159 [(Qn 7),(Qn 8)]),Qa (Qv 10) (MOp.not (Qn 9)),Qa (Qv 2) (Qd (Qn 10))]
def f146_c2:MC:=.r0 f146_r2
def f146_c6:MC:=.seq f146_c0 (.seq f146_c1 (.seq f146_c2 .ret))
attribute [go_sem] f146_r0 f146_r1 f146_r2
theorem f146_k : KK QP 146 f146 [1] f146_c6 [(RV.t 2)] 11 := ⟨func146,by kernel_rfl,by kernel_rfl,by kernel_rfl,by kernel_rfl⟩
theorem f146_ok : callable QP 146 = true := by kernel_rfl
theorem f146_in (h : GI QP gp [(RV.t 2)] res 11 f146_c6 args) : Does QP gp 146 args res := f146_k.i f146_ok h
def f147_r0:List MO:=[Qa (Qv 1) (MOp.ibox (Qn 0)),Qa (Qv 2) (Qd (Qo (Qp (Qq (Qs false)))))]
def f147_c0:MC:=.r0 f147_r0
def f147_r1:List MO:=[Qa (Qv 3) (Qd (Qo (Qp (Qq (D.fn (Go.Fn.func 160) [])))))]
def f147_c1:MC:=.r0 f147_r1
def f147_r2:List MO:=[Qa (Qv 4) (Qg 0 (Qn 1)),Qa (Qv 5) (Qg 4 (Qn 4)),Qa (Qv 6) (Qf 1 false (Qn 5)),Qa (Qv 7) (Qd (Qn 3)),Qa (Qv 8) (Qh 161 [(Qn 6),(Qn 7)]),Qa (Qv 9) (MOp.not (Qn 8)),Qa (Qv 10) (Qd (Qn 9)),Qb 10 true (Qv 11),Qa (Qv 11) (Qg 0 (Qn 1)),Qb 10 true (Qv 12),Qa (Qv 12) (Qg 4 (Qn 11)),Qb 10 true (Qv 13),Qa (Qv 13) (Qf 1 false (Qn 12)),Qb 10 true (Qv 14),Qa (Qv 14) (Qh 162 [(Qn 13)]),Qb 10 true (Qv 15),Qa (Qv 15) (MOp.not (Qn 14)),Qa (Qv 16) (Qm (Qn 10) (Qn 15) (Qo (Qp (Qq (Qs false))))),Qa (Qv 2) (Qd (Qn 16))]
def f147_c2:MC:=.r0 f147_r2
def f147_c6:MC:=.seq f147_c0 (.seq f147_c1 (.seq f147_c2 .ret))
attribute [go_sem] f147_r0 f147_r1 f147_r2
theorem f147_k : KK QP 147 f147 [1] f147_c6 [(RV.t 2)] 17 := ⟨func147,by kernel_rfl,by kernel_rfl,by kernel_rfl,by kernel_rfl⟩
theorem f147_ok : callable QP 147 = true := by kernel_rfl
theorem f147_in (h : GI QP gp [(RV.t 2)] res 17 f147_c6 args) : Does QP gp 147 args res := f147_k.i f147_ok h
def f151_r0:List MO:=[Qa (Qv 2) (Qd (Qo (Qp (Qq (Qs false)))))]
def f151_c0:MC:=.r0 f151_r0
def f151_r1:List MO:=[Qa (Qv 7) (Qd (Qn 0)),Qa (Qv 8) (MOp.rng (Qn 7))]
def f151_c1:MC:=.r0 f151_r1
def f151_r2:List MO:=[Qa (Qv 9) (MOp.nxt (Qn 8)),Qa (Qv 10) (Qi (Qn 9) 0)]
def f151_c2:MC:=.r0 f151_r2
def f151_r6:List MO:=[Qa (Qv 11) (Qi (Qn 9) 1),Qa (Qv 12) (Qi (Qn 9) 2),Qa (Qv 3) (Qd (Qn 11)),Qa (Qv 4) (Qd (Qn 12))]
def f151_c6:MC:=.r0 f151_r6
def f151_r7:List MO:=[Qa (Qv 14) (Qd (Qn 0)),Qa (Qv 15) (Qd (Qn 3)),Qa (Qv 16) (MOp.slcS (Qn 14) (Qv (Qn 15)) none),Qa (Qv 17) (Qh 165 [(Qn 16)]),Qa (Qv 13) (Qd (Qn 17)),Qa (Qv 18) (Qi (Qn 13) 0),Qa (Qv 19) (Qi (Qn 13) 1),Qa (Qv 5) (Qd (Qn 18)),Qa (Qv 6) (Qd (Qn 19))]
def f151_c7:MC:=.r0 f151_r7
def f151_r8:List MO:=[Qa (Qv 20) (Qd (Qn 4)),Qa (Qv 21) (Qe Qt Go.BinOp.eql (Qn 20) (Qo (Qp (Qq (Qr Go.IntKind.i32 65533))))),Qa (Qv 22) (Qd (Qn 21)),Qb 22 true (Qv 23),Qa (Qv 23) (Qd (Qn 6)),Qb 22 true (Qv 24),Qa (Qv 24) (Qe Qt Go.BinOp.eql (Qn 23) (Qo (Qp (Qq (Qr Qu 1))))),Qa (Qv 25) (Qm (Qn 22) (Qn 24) (Qo (Qp (Qq (Qs false)))))]
def f151_c8:MC:=.r0 f151_r8
def f151_r9:List MO:=[Qa (Qv 2) (Qd (Qo (Qp (Qq (Qs false)))))]
def f151_c9:MC:=.r0 f151_r9
def f151_c16:MC:=.seq f151_c6 (.seq f151_c7 (.seq f151_c8 (.cond (Qn 25) (.seq f151_c9 .ret) .skip)))
def f151_r23:List MO:=[Qa (Qv 2) (Qd (Qo (Qp (Qq (Qs true)))))]
def f151_c23:MC:=.r0 f151_r23
def f151_c26:MC:=.seq (.seq f151_c1 (.blk 0 (.loop (.seq f151_c2 (.seq (.cond (Qn 10) .skip (MC.exit 0)) (.blk 1 f151_c16)))))) (.seq f151_c23 .ret)
def f151_c27:MC:=.seq f151_c0 f151_c26
attribute [go_sem] f151_r0 f151_r1 f151_r2 f151_r6 f151_r7 f151_r8 f151_r9 f151_r23
theorem f151_k : KK QP 151 f151 [] f151_c27 [(RV.t 2)] 26 := ⟨func151,by kernel_rfl,by kernel_rfl,by kernel_rfl,by kernel_rfl⟩
theorem f151_ok : callable QP 151 = true := by kernel_rfl
theorem f151_in (h : GI QP gp [(RV.t 2)] res 26 f151_c27 args) : Does QP gp 151 args res := f151_k.i f151_ok h
def f157_r0:List MO:=[Qa (Qv 4) (Qd (Qo (Qp (Qq (Qs false)))))]
def f157_c0:MC:=.r0 f157_r0
def f157_r1:List MO:=[Qa (Qv 5) (Qd (Qn 0)),Qa (Qv 6) (Qd (Qn 1)),Qa (Qv 7) (Qh 177 [(Qn 5),(Qn 6)]),Qa (Qv 8) (Qe Qt Go.BinOp.geq (Qn 7) (Qo (Qp (Qq (Qr Qu 0))))),Qa (Qv 4) (Qd (Qn 8))]
def f157_c1:MC:=.r0 f157_r1
def f157_c4:MC:=.seq f157_c0 (.seq f157_c1 .ret)
attribute [go_sem] f157_r0 f157_r1
theorem f157_k : KK QP 157 f157 [] f157_c4 [(RV.t 4)] 9 := ⟨func157,by kernel_rfl,by kernel_rfl,by kernel_rfl,by kernel_rfl⟩
theorem f157_ok : callable QP 157 = true := by kernel_rfl
theorem f157_in (h : GI QP gp [(RV.t 4)] res 9 f157_c4 args) : Does QP gp 157 args res := f157_k.i f157_ok h
def f158_r0:List MO:=[Qa (Qv 3) (Qd (Qo (Qp (Qq (Qs false)))))]
def f158_c0:MC:=.r0 f158_r0
def f158_r1:List MO:=[Qa (Qv 4) (Qd (Qn 0)),Qa (Qv 5) (Qe Qt Go.BinOp.lss (Qn 4) (Qo (Qp (Qq (Qr Qu 0))))),Qa (Qv 6) (Qd (Qn 5)),Qb 6 false (Qv 7),Qa (Qv 7) (Qd (Qn 0)),Qb 6 false (Qv 8),Qa (Qv 8) (Qg 6 (Qn 1)),Qb 6 false (Qv 9),Qa (Qv 9) (Qf 1 false (Qn 8)),Qb 6 false (Qv 10),Qa (Qv 10) (Qe Qt Go.BinOp.geq (Qn 7) (Qn 9)),Qa (Qv 11) (Qm (Qn 6) (Qo (Qp (Qq (Qs true)))) (Qn 10)),Qa (Qv 3) (Qd (Qn 11))]
def f158_c1:MC:=.r0 f158_r1
def f158_c4:MC:=.seq f158_c0 (.seq f158_c1 .ret)
attribute [go_sem] f158_r0 f158_r1
theorem f158_k : KK QP 158 f158 [] f158_c4 [(RV.t 3)] 12 := ⟨func158,by kernel_rfl,by kernel_rfl,by kernel_rfl,by kernel_rfl⟩
theorem f158_ok : callable QP 158 = true := by kernel_rfl
theorem f158_in (h : GI QP gp [(RV.t 3)] res 12 f158_c4 args) : Does QP gp 158 args res := f158_k.i f158_ok h
def f159_r0:List MO:=[Qa (Qv 4) (Qd (Qo (Qp (Qq (Qs false)))))]
def f159_c0:MC:=.r0 f159_r0
def f159_r1:List MO:=[Qa (Qv 5) (Qd (Qn 0)),Qa (Qv 6) (Qd (Qn 1)),Qa (Qv 7) (Qh 178 [(Qn 5),(Qn 6)]),Qa (Qv 8) (Qe Qt Go.BinOp.geq (Qn 7) (Qo (Qp (Qq (Qr Qu 0))))),Qa (Qv 4) (Qd (Qn 8))]
def f159_c1:MC:=.r0 f159_r1
def f159_c4:MC:=.seq f159_c0 (.seq f159_c1 .ret)
attribute [go_sem] f159_r0 f159_r1
theorem f159_k : KK QP 159 f159 [] f159_c4 [(RV.t 4)] 9 := ⟨func159,by kernel_rfl,by kernel_rfl,by kernel_rfl,by kernel_rfl⟩
theorem f159_ok : callable QP 159 = true := by kernel_rfl
theorem f159_in (h : GI QP gp [(RV.t 4)] res 9 f159_c4 args) : Does QP gp 159 args res := f159_k.i f159_ok h
def f160_r0:List MO:=[Qa (Qv 1) (MOp.ibox (Qn 0)),Qa (Qv 2) (Qd (Qo (Qp (Qq (Qs false)))))]
def f160_c0:MC:=.r0 f160_r0
def f160_r1:List MO:=[Qa (Qv 3) (Qf 3 true (Qn 1)),Qa (Qv 4) (Qh 131 [(Qn 3)]),Qa (Qv 5) (MOp.not (Qn 4)),Qa (Qv 2) (Qd (Qn 5))]
def f160_c1:MC:=.r0 f160_r1
def f160_c4:MC:=.seq f160_c0 (.seq f160_c1 .ret)
attribute [go_sem] f160_r0 f160_r1
theorem f160_k : KK QP 160 f160 [1] f160_c4 [(RV.t 2)] 6 := ⟨func160,by kernel_rfl,by kernel_rfl,by kernel_rfl,by kernel_rfl⟩
theorem f160_ok : callable QP 160 = true := by kernel_rfl
theorem f160_in (h : GI QP gp [(RV.t 2)] res 6 f160_c4 args) : Does QP gp 160 args res := f160_k.i f160_ok h
def f161_r0:List MO:=[Qa (Qv 4) (Qd (Qo (Qp (Qq (Qs false)))))]
def f161_c0:MC:=.r0 f161_r0
def f161_r1:List MO:=[Qa (Qv 5) (Qd (Qn 0)),Qa (Qv 6) (Qd (Qn 1)),Qa (Qv 7) (Qh 179 [(Qn 5),(Qn 6)]),Qa (Qv 8) (Qe Qt Go.BinOp.geq (Qn 7) (Qo (Qp (Qq (Qr Qu 0))))),Qa (Qv 4) (Qd (Qn 8))]
def f161_c1:MC:=.r0 f161_r1
def f161_c4:MC:=.seq f161_c0 (.seq f161_c1 .ret)
attribute [go_sem] f161_r0 f161_r1
theorem f161_k : KK QP 161 f161 [] f161_c4 [(RV.t 4)] 9 := ⟨func161,by kernel_rfl,by kernel_rfl,by kernel_rfl,by kernel_rfl⟩
theorem f161_ok : callable QP 161 = true := by kernel_rfl
theorem f161_in (h : GI QP gp [(RV.t 4)] res 9 f161_c4 args) : Does QP gp 161 args res := f161_k.i f161_ok h
def f162_r0:List MO:=[Qa (Qv 2) (Qd (Qo (Qp (Qq (Qs false)))))]
def f162_c0:MC:=.r0 f162_r0
def f162_r1:List MO:=[Qa (Qv 3) (MOp.alloc [(Qr Qu 0)]),Qa none (Ql 1 (Qn 3) (Qo (Qp (Qq (Qr Qu 0)))))]
def f162_c1:MC:=.r0 f162_r1
def f162_r2:List MO:=[Qa (Qv 4) (Qd (Qn 0)),Qa (Qv 5) (Qh 180 [(Qn 4)])]
def f162_c2:MC:=.r0 f162_r2
def f162_r4:List MO:=[Qa (Qv 7) (Qf 1 false (Qn 3)),Qa (Qv 8) (Qe Qt Go.BinOp.add (Qn 7) (Qo (Qp (Qq (Qr Qu 1))))),Qa none (Ql 1 (Qn 3) (Qn 8))]
def f162_c4:MC:=.r0 f162_r4
def f162_c6:MC:=.rf (Qn 5) [6] .skip (.blk 1 f162_c4)
def f162_r9:List MO:=[Qa (Qv 9) (Qf 1 false (Qn 3)),Qa (Qv 10) (Qd (Qn 0)),Qa (Qv 11) (Qk Qt (Qn 10)),Qa (Qv 12) (Qe Qt Go.BinOp.lss (Qn 9) (Qn 11)),Qa (Qv 2) (Qd (Qn 12))]
def f162_c9:MC:=.r0 f162_r9
def f162_c13:MC:=.seq f162_c1 (.seq (.seq f162_c2 (.blk 0 f162_c6)) (.seq f162_c9 .ret))
def f162_c14:MC:=.seq f162_c0 f162_c13
attribute [go_sem] f162_r0 f162_r1 f162_r2 f162_r4 f162_r9
theorem f162_k : KK QP 162 f162 [] f162_c14 [(RV.t 2)] 13 := ⟨func162,by kernel_rfl,by kernel_rfl,by kernel_rfl,by kernel_rfl⟩
theorem f162_ok : callable QP 162 = true := by kernel_rfl
theorem f162_in (h : GI QP gp [(RV.t 2)] res 13 f162_c14 args) : Does QP gp 162 args res := f162_k.i f162_ok h
def f177_r0:List MO:=[Qa (Qv 4) (Qd (Qo (Qp (Qq (Qr Qu 0)))))]
def f177_c0:MC:=.r0 f177_r0
def f177_r1:List MO:=[Qa (Qv 6) (Qd (Qn 0)),Qa (Qv 7) (Qk Qt (Qn 6)),Qa (Qv 8) (Qd (Qo (Qp (Qq (Qr Qu 0)))))]
def f177_c1:MC:=.r0 f177_r1
def f177_r2:List MO:=[Qa (Qv 9) (Qe Qt Go.BinOp.lss (Qn 8) (Qn 7))]
def f177_c2:MC:=.r0 f177_r2
def f177_r6:List MO:=[Qa (Qv 10) (Qd (Qn 8)),Qa (Qv 5) (Qd (Qn 10))]
def f177_c6:MC:=.r0 f177_r6
def f177_r7:List MO:=[Qa (Qv 11) (Qd (Qn 1)),Qa (Qv 12) (Qd (Qn 0)),Qa (Qv 13) (Qd (Qn 5)),Qa (Qv 14) (Qj 1 (Qn 12) (Qn 13)),Qa (Qv 15) (Qf 1 false (Qn 14)),Qa (Qv 16) (Qe Leaf.b Go.BinOp.eql (Qn 11) (Qn 15))]
def f177_c7:MC:=.r0 f177_r7
def f177_r8:List MO:=[Qa (Qv 17) (Qd (Qn 5)),Qa (Qv 4) (Qd (Qn 17))]
def f177_c8:MC:=.r0 f177_r8
def f177_r16:List MO:=[Qa (Qv 18) (Qe Qt Go.BinOp.add (Qn 8) (Qo (Qp (Qq (Qr Qu 1))))),Qa (Qv 8) (Qd (Qn 18))]
def f177_c16:MC:=.r0 f177_r16
def f177_c17:MC:=.seq (.blk 1 (.seq f177_c6 (.seq f177_c7 (.cond (Qn 16) (.seq f177_c8 .ret) .skip)))) f177_c16
def f177_r23:List MO:=[Qa (Qv 4) (Qd (Qo (Qp (Qq (Qr Qu (-1))))))]
def f177_c23:MC:=.r0 f177_r23
def f177_c26:MC:=.seq (.seq f177_c1 (.blk 0 (.loop (.seq f177_c2 (.seq (.cond (Qn 9) .skip (MC.exit 0)) f177_c17))))) (.seq f177_c23 .ret)
def f177_c27:MC:=.seq f177_c0 f177_c26
attribute [go_sem] f177_r0 f177_r1 f177_r2 f177_r6 f177_r7 f177_r8 f177_r16 f177_r23
theorem f177_k : KK QP 177 f177 [] f177_c27 [(RV.t 4)] 19 := ⟨func177,by kernel_rfl,by kernel_rfl,by kernel_rfl,by kernel_rfl⟩
theorem f177_ok : callable QP 177 = true := by kernel_rfl
theorem f177_in (h : GI QP gp [(RV.t 4)] res 19 f177_c27 args) : Does QP gp 177 args res := f177_k.i f177_ok h
def f178_r0:List MO:=[Qa (Qv 4) (Qd (Qo (Qp (Qq (Qr Qu 0)))))]
def f178_c0:MC:=.r0 f178_r0
def f178_r1:List MO:=[Qa (Qv 6) (Qd (Qn 0)),Qa (Qv 7) (Qk Qt (Qn 6)),Qa (Qv 8) (Qd (Qo (Qp (Qq (Qr Qu 0)))))]
def f178_c1:MC:=.r0 f178_r1
def f178_r2:List MO:=[Qa (Qv 9) (Qe Qt Go.BinOp.lss (Qn 8) (Qn 7))]
def f178_c2:MC:=.r0 f178_r2
def f178_r6:List MO:=[Qa (Qv 10) (Qd (Qn 8)),Qa (Qv 5) (Qd (Qn 10))]
def f178_c6:MC:=.r0 f178_r6
def f178_r7:List MO:=[Qa (Qv 11) (Qd (Qn 1)),Qa (Qv 12) (Qd (Qn 0)),Qa (Qv 13) (Qd (Qn 5)),Qa (Qv 14) (Qj 1 (Qn 12) (Qn 13)),Qa (Qv 15) (Qf 1 false (Qn 14)),Qa (Qv 16) (MOp.callv (Qn 11) [(Qn 15)])]
def f178_c7:MC:=.r0 f178_r7
def f178_r8:List MO:=[Qa (Qv 17) (Qd (Qn 5)),Qa (Qv 4) (Qd (Qn 17))]
def f178_c8:MC:=.r0 f178_r8
def f178_r16:List MO:=[Qa (Qv 18) (Qe Qt Go.BinOp.add (Qn 8) (Qo (Qp (Qq (Qr Qu 1))))),Qa (Qv 8) (Qd (Qn 18))]
def f178_c16:MC:=.r0 f178_r16
def f178_c17:MC:=.seq (.blk 1 (.seq f178_c6 (.seq f178_c7 (.cond (Qn 16) (.seq f178_c8 .ret) .skip)))) f178_c16
def f178_r23:List MO:=[Qa (Qv 4) (Qd (Qo (Qp (Qq (Qr Qu (-1))))))]
def f178_c23:MC:=.r0 f178_r23
def f178_c26:MC:=.seq (.seq f178_c1 (.blk 0 (.loop (.seq f178_c2 (.seq (.cond (Qn 9) .skip (MC.exit 0)) f178_c17))))) (.seq f178_c23 .ret)
def f178_c27:MC:=.seq f178_c0 f178_c26
attribute [go_sem] f178_r0 f178_r1 f178_r2 f178_r6 f178_r7 f178_r8 f178_r16 f178_r23
theorem f178_k : KK QP 178 f178 [] f178_c27 [(RV.t 4)] 19 := ⟨func178,by kernel_rfl,by kernel_rfl,by kernel_rfl,by kernel_rfl⟩
theorem f178_ok : callable QP 178 = true := by kernel_rfl
theorem f178_in (h : GI QP gp [(RV.t 4)] res 19 f178_c27 args) : Does QP gp 178 args res := f178_k.i f178_ok h
def f179_r0:List MO:=[Qa (Qv 4) (Qd (Qo (Qp (Qq (Qr Qu 0)))))]
def f179_c0:MC:=.r0 f179_r0
def f179_r1:List MO:=[Qa (Qv 6) (Qd (Qn 0)),Qa (Qv 7) (Qk Qt (Qn 6)),Qa (Qv 8) (Qd (Qo (Qp (Qq (Qr Qu 0)))))]
def f179_c1:MC:=.r0 f179_r1
def f179_r2:List MO:=[Qa (Qv 9) (Qe Qt Go.BinOp.lss (Qn 8) (Qn 7))]
def f179_c2:MC:=.r0 f179_r2
def f179_r6:List MO:=[Qa (Qv 10) (Qd (Qn 8)),Qa (Qv 5) (Qd (Qn 10))]
def f179_c6:MC:=.r0 f179_r6
def f179_r7:List MO:=[Qa (Qv 11) (Qd (Qn 1)),Qa (Qv 12) (Qd (Qn 0)),Qa (Qv 13) (Qd (Qn 5)),Qa (Qv 14) (Qj 3 (Qn 12) (Qn 13)),Qa (Qv 15) (Qf 3 true (Qn 14)),Qa (Qv 16) (MOp.callv (Qn 11) [(Qn 15)])]
def f179_c7:MC:=.r0 f179_r7
def f179_r8:List MO:=[Qa (Qv 17) (Qd (Qn 5)),Qa (Qv 4) (Qd (Qn 17))]
def f179_c8:MC:=.r0 f179_r8
def f179_r16:List MO:=[Qa (Qv 18) (Qe Qt Go.BinOp.add (Qn 8) (Qo (Qp (Qq (Qr Qu 1))))),Qa (Qv 8) (Qd (Qn 18))]
def f179_c16:MC:=.r0 f179_r16
def f179_c17:MC:=.seq (.blk 1 (.seq f179_c6 (.seq f179_c7 (.cond (Qn 16) (.seq f179_c8 .ret) .skip)))) f179_c16
def f179_r23:List MO:=[Qa (Qv 4) (Qd (Qo (Qp (Qq (Qr Qu (-1))))))]
def f179_c23:MC:=.r0 f179_r23
def f179_c26:MC:=.seq (.seq f179_c1 (.blk 0 (.loop (.seq f179_c2 (.seq (.cond (Qn 9) .skip (MC.exit 0)) f179_c17))))) (.seq f179_c23 .ret)
def f179_c27:MC:=.seq f179_c0 f179_c26
attribute [go_sem] f179_r0 f179_r1 f179_r2 f179_r6 f179_r7 f179_r8 f179_r16 f179_r23
theorem f179_k : KK QP 179 f179 [] f179_c27 [(RV.t 4)] 19 := ⟨func179,by kernel_rfl,by kernel_rfl,by kernel_rfl,by kernel_rfl⟩
theorem f179_ok : callable QP 179 = true := by kernel_rfl
theorem f179_in (h : GI QP gp [(RV.t 4)] res 19 f179_c27 args) : Does QP gp 179 args res := f179_k.i f179_ok h
def f180_r0:List MO:=[Qa (Qv 1) (MOp.ibox (Qn 0)),Qa (Qv 2) (Qd (Qo (Qp (Qq D.nilF))))]
def f180_c0:MC:=.r0 f180_r0
def f180_r1:List MO:=[Qa (Qv 3) (MOp.mkF (Go.Fn.func 190) [(Qn 1)]),Qa (Qv 2) (Qd (Qn 3))]
def f180_c1:MC:=.r0 f180_r1
def f180_c4:MC:=.seq f180_c0 (.seq f180_c1 .ret)
attribute [go_sem] f180_r0 f180_r1
theorem f180_k : KK QP 180 f180 [1] f180_c4 [(RV.t 2)] 4 := ⟨func180,by kernel_rfl,by kernel_rfl,by kernel_rfl,by kernel_rfl⟩
theorem f180_ok : callable QP 180 = true := by kernel_rfl
theorem f180_in (h : GI QP gp [(RV.t 2)] res 4 f180_c4 args) : Does QP gp 180 args res := f180_k.i f180_ok h
def f190_r0:List MO:=[Qa (Qv 6) MOp.mkM,Qa (Qv 3) (Qd (Qn 6))]
def f190_c0:MC:=.r0 f190_r0
def f190_r2:List MO:=[Qa (Qv 7) (Qf 1 false (Qn 1)),Qa (Qv 8) (Qk Qt (Qn 7)),Qa (Qv 9) (Qd (Qo (Qp (Qq (Qr Qu 0)))))]
def f190_c2:MC:=.r0 f190_r2
def f190_r3:List MO:=[Qa (Qv 10) (Qe Qt Go.BinOp.lss (Qn 9) (Qn 8))]
def f190_c3:MC:=.r0 f190_r3
def f190_r7:List MO:=[Qa (Qv 11) (Qj 3 (Qn 7) (Qn 9)),Qa (Qv 12) (Qf 3 true (Qn 11)),Qa (Qv 5) (MOp.alloc [(Qr Qu 0),(Qr Qu 0),(D.str (ByteArray.mk #[]))]),Qa none (Ql 3 (Qn 5) (Qn 12))]
def f190_c7:MC:=.r0 f190_r7
def f190_r8:List MO:=[Qa (Qv 13) (Qd (Qn 3)),Qa (Qv 14) (Qf 3 true (Qn 5)),Qa (Qv 15) (MOp.lkp false (Qp (Qq (Qs false))) true [Qt,Qt,Leaf.s] (Qn 13) (Qn 14)),Qa (Qv 16) (Qd (Qn 15)),Qb 16 false (Qv 17),Qa (Qv 17) (Qd (Qn 0)),Qb 16 false (Qv 18),Qa (Qv 18) (Qf 3 true (Qn 5)),Qb 16 false (Qv 19),Qa (Qv 19) (MOp.callv (Qn 17) [(Qn 18)]),Qb 16 false (Qv 20),Qa (Qv 20) (MOp.not (Qn 19)),Qa (Qv 21) (Qm (Qn 16) (Qo (Qp (Qq (Qs true)))) (Qn 20))]
def f190_c8:MC:=.r0 f190_r8
def f190_r13:List MO:=[Qa (Qv 22) (Qd (Qn 3)),Qa (Qv 23) (Qf 3 true (Qn 5)),Qa none (MOp.mupd true [Qt,Qt,Leaf.s] (Qn 22) (Qn 23) (Qo (Qp (Qq (Qs true)))))]
def f190_c13:MC:=.r0 f190_r13
def f190_r17:List MO:=[Qa (Qv 24) (Qe Qt Go.BinOp.add (Qn 9) (Qo (Qp (Qq (Qr Qu 1))))),Qa (Qv 9) (Qd (Qn 24))]
def f190_c17:MC:=.r0 f190_r17
def f190_c18:MC:=.seq (.blk 1 (.seq f190_c7 (.seq (.seq f190_c8 (.cond (Qn 21) (MC.exit 0) .skip)) f190_c13))) f190_c17
def f190_c25:MC:=.seq f190_c0 (.seq .skip (.seq f190_c2 (.blk 0 (.loop (.seq f190_c3 (.seq (.cond (Qn 10) .skip (MC.exit 0)) f190_c18))))))
def f190_c26:MC:=.scope f190_c25
attribute [go_sem] f190_r0 f190_r2 f190_r3 f190_r7 f190_r8 f190_r13 f190_r17
theorem f190_k : KK QP 190 f190 [] f190_c26 [] 25 := ⟨func190,by kernel_rfl,by kernel_rfl,by kernel_rfl,by kernel_rfl⟩
theorem f190_ok : callable QP 190 = true := by kernel_rfl
theorem f190_tri (h : GT QP gp [] pre R 25 f190_c26 args) : Tri QP gp 190 args pre R := f190_k.t h
end Go.Fw.L07
