/- Small codes. -/
import Derived.Test.YtejnfjophhnaeaaGreatDoorFd
import Derived.Test.YtejnfjophhnaeaaGreatDoorProg
set_option linter.all false
namespace Go.Fw.L07
open Go Go.Fw
open Go.Proofs.Tryz renaming prog -> QP
open Go.Proofs.Tryz (f125 f14 f16 f37 f38 f41 f45 f71 f73 f74 f75 f97 func125 func14 func16 func37 func38 func41 func45 func71 func73 func74 func75 func97)
open Go.Fw.MO renaming op -> Qa
open Go.Fw.MOp renaming mv -> Qd,bin -> Qe,load -> Qf,fad -> Qg,call -> Qh,ext -> Qi,iad -> Qj,len -> Qk,store -> Ql
open Go.Fw.Opd renaming t -> Qn,c -> Qo
open Go.Fw.V renaming one -> Qp
open Go.Fw.A renaming d -> Qq
open Go.Fw.D renaming int -> Qr,bool -> Qs
open Go.Fw.Leaf renaming i -> Qt
open Go.IntKind renaming i64 -> Qu
open Option renaming some -> Qv
variable {gp : Heap} {args : List V} {res : V} {pre : List Ch} {R : V -> List Ch -> Prop}
def f14_r0:List MO:=[Qa (Qv 1) (MOp.ibox (Qn 0)),Qa (Qv 2) (Qd (Qo (Qp A.nil))),Qa (Qv 3) (Qd (Qo (Qp (Qq (Qr Qu 0)))))]
def f14_c0:MC:=.r0 f14_r0
def f14_r1:List MO:=[Qa (Qv 7) (Qf 2 true (Qn 1)),Qa (Qv 8) (Qh 36 [(Qn 7)]),Qa (Qv 6) (Qd (Qn 8)),Qa (Qv 9) (Qi (Qn 6) 0),Qa (Qv 10) (Qi (Qn 6) 1),Qa (Qv 4) (Qd (Qn 9)),Qa (Qv 5) (Qd (Qn 10))]
def f14_c1:MC:=.r0 f14_r1
def f14_r2:List MO:=[Qa (Qv 11) (Qd (Qn 5)),Qa (Qv 12) (Qe Qt Go.BinOp.neq (Qn 11) (Qo (Qp (Qq (Qr Qu 0)))))]
def f14_c2:MC:=.r0 f14_r2
def f14_r3:List MO:=[Qa (Qv 13) (Qd (Qn 5)),Qa (Qv 2) (Qd (Qo (Qp A.nil))),Qa (Qv 3) (Qd (Qn 13))]
def f14_c3:MC:=.r0 f14_r3
def f14_r10:List MO:=[Qa (Qv 14) (Qf 2 true (Qn 1)),Qa (Qv 15) (Qh 37 [(Qn 14)]),Qa (Qv 16) (Qh 38 [(Qn 15)]),Qa (Qv 2) (Qd (Qn 16)),Qa (Qv 3) (Qd (Qo (Qp (Qq (Qr Qu 0)))))]
def f14_c10:MC:=.r0 f14_r10
def f14_c13:MC:=.seq (.seq f14_c1 (.seq f14_c2 (.cond (Qn 12) (.seq f14_c3 .ret) .skip))) (.seq f14_c10 .ret)
def f14_c14:MC:=.seq f14_c0 f14_c13
attribute [go_sem] f14_r0 f14_r1 f14_r2 f14_r3 f14_r10
theorem f14_k : KK QP 14 f14 [1] f14_c14 [(RV.t 2),(RV.t 3)] 17 := by refine ⟨func14,?_,?_,?_,?_⟩<;>kernel_rfl
theorem f14_ok : callable QP 14 = true := by kernel_rfl
theorem f14_in (h : GI QP gp [(RV.t 2),(RV.t 3)] res 17 f14_c14 args) : Does QP gp 14 args res := f14_k.i f14_ok h
def f16_r0:List MO:=[Qa (Qv 2) (MOp.ibox (Qn 0)),Qa (Qv 3) (MOp.ibox (Qn 1)),Qa (Qv 4) (Qd (Qo (Qp (Qq (Qs false))))),Qa (Qv 5) (Qd (Qo (Qp (Qq (Qr Qu 0)))))]
def f16_c0:MC:=.r0 f16_r0
def f16_r1:List MO:=[Qa (Qv 11) (Qf 2 true (Qn 2)),Qa (Qv 12) (Qf 2 true (Qn 3)),Qa (Qv 13) (MOp.bslice 2 [(Qr Qu 0),(D.sl [])] 2 [(0,(Qn 11)),(1,(Qn 12))]),Qa (Qv 14) (Qk Qt (Qn 13)),Qa (Qv 15) (Qd (Qo (Qp (Qq (Qr Qu 0)))))]
def f16_c1:MC:=.r0 f16_r1
def f16_r2:List MO:=[Qa (Qv 16) (Qe Qt Go.BinOp.lss (Qn 15) (Qn 14))]
def f16_c2:MC:=.r0 f16_r2
def f16_r6:List MO:=[Qa (Qv 17) (Qj 2 (Qn 13) (Qn 15)),Qa (Qv 18) (Qf 2 true (Qn 17)),Qa (Qv 7) (MOp.alloc [(Qr Qu 0),(D.sl [])]),Qa none (Ql 2 (Qn 7) (Qn 18))]
def f16_c6:MC:=.r0 f16_r6
def f16_r7:List MO:=[Qa (Qv 20) (Qf 2 true (Qn 7)),Qa (Qv 21) (Qh 36 [(Qn 20)]),Qa (Qv 19) (Qd (Qn 21)),Qa (Qv 22) (Qi (Qn 19) 0),Qa (Qv 23) (Qi (Qn 19) 1),Qa (Qv 8) (Qd (Qn 22)),Qa (Qv 9) (Qd (Qn 23))]
def f16_c7:MC:=.r0 f16_r7
def f16_r8:List MO:=[Qa (Qv 24) (Qd (Qn 9)),Qa (Qv 25) (Qe Qt Go.BinOp.neq (Qn 24) (Qo (Qp (Qq (Qr Qu 0)))))]
def f16_c8:MC:=.r0 f16_r8
def f16_r9:List MO:=[Qa (Qv 26) (Qd (Qn 9)),Qa (Qv 4) (Qd (Qo (Qp (Qq (Qs false))))),Qa (Qv 5) (Qd (Qn 26))]
def f16_c9:MC:=.r0 f16_r9
def f16_c16:MC:=.seq f16_c6 (.seq f16_c7 (.seq f16_c8 (.cond (Qn 25) (.seq f16_c9 .ret) .skip)))
def f16_r18:List MO:=[Qa (Qv 27) (Qe Qt Go.BinOp.add (Qn 15) (Qo (Qp (Qq (Qr Qu 1))))),Qa (Qv 15) (Qd (Qn 27))]
def f16_c18:MC:=.r0 f16_r18
def f16_c24:MC:=.seq f16_c1 (.blk 0 (.loop (.seq f16_c2 (.seq (.cond (Qn 16) .skip (MC.exit 0)) (.seq (.blk 1 f16_c16) f16_c18)))))
def f16_r25:List MO:=[Qa (Qv 28) (Qf 2 true (Qn 2)),Qa (Qv 29) (Qf 2 true (Qn 3)),Qa (Qv 30) (Qh 41 [(Qn 28),(Qn 29)]),Qa (Qv 31) (Qh 37 [(Qn 30)]),Qa (Qv 32) (Qh 38 [(Qn 31)]),Qa (Qv 10) (Qd (Qn 32))]
def f16_c25:MC:=.r0 f16_r25
def f16_r26:List MO:=[Qa (Qv 33) (Qd (Qn 10)),Qa (Qv 34) (Qg 0 (Qn 2)),Qa (Qv 35) (Qf 1 false (Qn 34)),Qa (Qv 36) (Qj 1 (Qn 33) (Qn 35)),Qa (Qv 37) (Qf 1 false (Qn 36)),Qa (Qv 38) (Qd (Qn 10)),Qa (Qv 39) (Qg 0 (Qn 3)),Qa (Qv 40) (Qf 1 false (Qn 39)),Qa (Qv 41) (Qg 1 (Qn 2)),Qa (Qv 42) (Qf 1 false (Qn 41)),Qa (Qv 43) (Qk Qt (Qn 42)),Qa (Qv 44) (Qe Qt Go.BinOp.add (Qn 40) (Qn 43)),Qa (Qv 45) (Qj 1 (Qn 38) (Qn 44)),Qa (Qv 46) (Qf 1 false (Qn 45)),Qa (Qv 47) (Qe Qt Go.BinOp.eql (Qn 37) (Qn 46)),Qa (Qv 4) (Qd (Qn 47)),Qa (Qv 5) (Qd (Qo (Qp (Qq (Qr Qu 0)))))]
def f16_c26:MC:=.reg true f16_r26
def f16_c31:MC:=.seq f16_c0 (.seq f16_c24 (.seq f16_c25 (.seq f16_c26 .ret)))
attribute [go_sem] f16_r0 f16_r1 f16_r2 f16_r6 f16_r7 f16_r8 f16_r9 f16_r18 f16_r25 f16_r26
theorem f16_k : KK QP 16 f16 [2,3] f16_c31 [(RV.t 4),(RV.t 5)] 48 := by refine ⟨func16,?_,?_,?_,?_⟩<;>kernel_rfl
theorem f16_ok : callable QP 16 = true := by kernel_rfl
theorem f16_in (h : GI QP gp [(RV.t 4),(RV.t 5)] res 48 f16_c31 args) : Does QP gp 16 args res := f16_k.i f16_ok h
def f37_r0:List MO:=[Qa (Qv 1) (MOp.ibox (Qn 0)),Qa (Qv 2) (Qd (Qo (Qp (Qq D.nilP))))]
def f37_c0:MC:=.r0 f37_r0
def f37_r1:List MO:=[Qa (Qv 3) (Qf 2 true (Qn 1)),Qa (Qv 4) (Qg 1 (Qn 1)),Qa (Qv 5) (Qf 1 false (Qn 4)),Qa (Qv 6) (Qk Qt (Qn 5)),Qa (Qv 7) (MOp.mkS 1 8 [(Qr Qu 0)] (Qn 6)),Qa (Qv 8) (MOp.build [(Qr Qu 0),(D.sl []),(D.sl [])] [(0,(2,(Qn 3))),(2,(1,(Qn 7)))]),Qa (Qv 9) (MOp.box (Qn 8)),Qa (Qv 2) (Qd (Qn 9))]
def f37_c1:MC:=.reg true f37_r1
def f37_c4:MC:=.seq f37_c0 (.seq f37_c1 .ret)
attribute [go_sem] f37_r0 f37_r1
theorem f37_k : KK QP 37 f37 [1] f37_c4 [(RV.t 2)] 10 := by refine ⟨func37,?_,?_,?_,?_⟩<;>kernel_rfl
theorem f37_ok : callable QP 37 = true := by kernel_rfl
theorem f37_tri (h : GT QP gp [(RV.t 2)] pre R 10 f37_c4 args) : Tri QP gp 37 args pre R := f37_k.t h
def f38_r0:List MO:=[Qa (Qv 2) (Qd (Qo (Qp A.nil)))]
def f38_c0:MC:=.r0 f38_r0
def f38_r1:List MO:=[Qa (Qv 6) (Qd (Qn 0)),Qa (Qv 7) (MOp.mkMv (Go.Fn.func 71) (Qn 6)),Qa (Qv 3) (Qd (Qn 7))]
def f38_c1:MC:=.r0 f38_r1
def f38_r2:List MO:=[Qa (Qv 8) (Qd (Qn 3)),Qa (Qv 9) (MOp.callv (Qn 8) []),Qa (Qv 4) (Qd (Qo (Qp (Qq (Qr Qu 0))))),Qa (Qv 5) (Qd (Qn 9))]
def f38_c2:MC:=.r0 f38_r2
def f38_r3:List MO:=[Qa (Qv 10) (Qd (Qn 5)),Qa (Qv 11) (Qd (Qn 4)),Qa (Qv 12) (Qe Qt Go.BinOp.gtr (Qn 10) (Qn 11))]
def f38_c3:MC:=.r0 f38_r3
def f38_r8:List MO:=[Qa (Qv 13) (Qd (Qn 5)),Qa (Qv 14) (Qd (Qn 3)),Qa (Qv 15) (MOp.callv (Qn 14) []),Qa (Qv 4) (Qd (Qn 13)),Qa (Qv 5) (Qd (Qn 15))]
def f38_c8:MC:=.r0 f38_r8
def f38_r14:List MO:=[Qa (Qv 16) (Qd (Qn 0)),Qa (Qv 17) (MOp.nck (Qn 16)),Qa (Qv 18) (Qg 2 (Qn 17)),Qa (Qv 19) (Qf 1 false (Qn 18)),Qa (Qv 2) (Qd (Qn 19))]
def f38_c14:MC:=.r0 f38_r14
def f38_c17:MC:=.seq (.seq f38_c2 (.blk 0 (.loop (.seq (.seq f38_c3 (.cond (Qn 12) .skip (MC.exit 0))) (.blk 1 f38_c8))))) (.seq f38_c14 .ret)
def f38_c19:MC:=.seq f38_c0 (.seq f38_c1 f38_c17)
attribute [go_sem] f38_r0 f38_r1 f38_r2 f38_r3 f38_r8 f38_r14
theorem f38_k : KK QP 38 f38 [] f38_c19 [(RV.t 2)] 20 := by refine ⟨func38,?_,?_,?_,?_⟩<;>kernel_rfl
theorem f38_ok : callable QP 38 = true := by kernel_rfl
theorem f38_tri (h : GT QP gp [(RV.t 2)] pre R 20 f38_c19 args) : Tri QP gp 38 args pre R := f38_k.t h
def f41_r0:List MO:=[Qa (Qv 2) (MOp.ibox (Qn 0)),Qa (Qv 3) (MOp.ibox (Qn 1)),Qa (Qv 4) (MOp.alloc [(Qr Qu 0),(D.sl [])])]
def f41_c0:MC:=.r0 f41_r0
def f41_r1:List MO:=[Qa (Qv 9) (Qg 0 (Qn 2)),Qa (Qv 10) (Qf 1 false (Qn 9)),Qa (Qv 11) (Qg 1 (Qn 2)),Qa (Qv 12) (Qf 1 false (Qn 11)),Qa (Qv 13) (MOp.callN 73 [(Qn 12)]),Qa (Qv 14) (MOp.build [(Qr Qu 0),(D.sl [])] [(0,(1,(Qn 10))),(1,(1,(Qn 13)))]),Qa (Qv 5) (MOp.alloc [(Qr Qu 0),(D.sl [])]),Qa none (Ql 2 (Qn 5) (Qn 14))]
def f41_c1:MC:=.regw f41_r1
def f41_r2:List MO:=[Qa (Qv 15) (Qg 1 (Qn 3)),Qa (Qv 16) (Qf 1 false (Qn 15)),Qa (Qv 17) (Qk Qt (Qn 16)),Qa (Qv 18) (Qd (Qo (Qp (Qq (Qr Qu 0)))))]
def f41_c2:MC:=.r0 f41_r2
def f41_r3:List MO:=[Qa (Qv 19) (Qe Qt Go.BinOp.lss (Qn 18) (Qn 17))]
def f41_c3:MC:=.r0 f41_r3
def f41_r7:List MO:=[Qa (Qv 20) (Qj 6 (Qn 16) (Qn 18)),Qa (Qv 21) (Qf 6 true (Qn 20)),Qa (Qv 7) (MOp.alloc [(Qr Qu 0),(Qr Qu 0),(Qr Qu 0),(D.str (ByteArray.mk #[])),(D.sl []),(D.sl [])]),Qa none (Ql 6 (Qn 7) (Qn 21))]
def f41_c7:MC:=.r0 f41_r7
def f41_r8:List MO:=[Qa (Qv 22) (Qg 5 (Qn 7)),Qa (Qv 23) (Qf 1 false (Qn 22)),Qa (Qv 24) (Qh 44 [(Qn 23)]),Qa (Qv 25) (Qg 5 (Qn 7)),Qa none (Ql 1 (Qn 25) (Qn 24))]
def f41_c8:MC:=.r0 f41_r8
def f41_r9:List MO:=[Qa (Qv 26) (Qg 5 (Qn 7)),Qa (Qv 27) (Qf 1 false (Qn 26)),Qa (Qv 28) (Qk Qt (Qn 27)),Qa (Qv 29) (Qd (Qo (Qp (Qq (Qr Qu 0)))))]
def f41_c9:MC:=.r0 f41_r9
def f41_r10:List MO:=[Qa (Qv 30) (Qe Qt Go.BinOp.lss (Qn 29) (Qn 28))]
def f41_c10:MC:=.r0 f41_r10
def f41_r14:List MO:=[Qa (Qv 31) (Qd (Qn 29)),Qa (Qv 8) (Qd (Qn 31))]
def f41_c14:MC:=.r0 f41_r14
def f41_r15:List MO:=[Qa (Qv 32) (Qg 5 (Qn 7)),Qa (Qv 33) (Qf 1 false (Qn 32)),Qa (Qv 34) (Qd (Qn 8)),Qa (Qv 35) (Qj 1 (Qn 33) (Qn 34)),Qa (Qv 36) (Qf 1 false (Qn 35)),Qa (Qv 37) (Qg 1 (Qn 2)),Qa (Qv 38) (Qf 1 false (Qn 37)),Qa (Qv 39) (Qk Qt (Qn 38)),Qa (Qv 40) (Qe Qt Go.BinOp.add (Qn 36) (Qn 39)),Qa (Qv 41) (Qj 1 (Qn 33) (Qn 34)),Qa none (Ql 1 (Qn 41) (Qn 40))]
def f41_c15:MC:=.reg true f41_r15
def f41_r18:List MO:=[Qa (Qv 42) (Qe Qt Go.BinOp.add (Qn 29) (Qo (Qp (Qq (Qr Qu 1))))),Qa (Qv 29) (Qd (Qn 42))]
def f41_c18:MC:=.r0 f41_r18
def f41_c21:MC:=.seq f41_c10 (.seq (.cond (Qn 30) .skip (MC.exit 2)) (.seq (.blk 3 (.seq f41_c14 f41_c15)) f41_c18))
def f41_r25:List MO:=[Qa (Qv 43) (Qg 1 (Qn 5)),Qa (Qv 44) (Qf 1 false (Qn 43)),Qa (Qv 45) (Qf 6 true (Qn 7)),Qa (Qv 46) (MOp.bslice 6 [(Qr Qu 0),(Qr Qu 0),(Qr Qu 0),(D.str (ByteArray.mk #[])),(D.sl []),(D.sl [])] 1 [(0,(Qn 45))]),Qa (Qv 47) (MOp.app 44 6 88 (Qn 44) (Qn 46)),Qa (Qv 48) (Qg 1 (Qn 5)),Qa none (Ql 1 (Qn 48) (Qn 47))]
def f41_c25:MC:=.r0 f41_r25
def f41_c27:MC:=.seq f41_c8 (.seq (.seq f41_c9 (.blk 2 (.loop f41_c21))) f41_c25)
def f41_r30:List MO:=[Qa (Qv 49) (Qe Qt Go.BinOp.add (Qn 18) (Qo (Qp (Qq (Qr Qu 1))))),Qa (Qv 18) (Qd (Qn 49))]
def f41_c30:MC:=.r0 f41_r30
def f41_c33:MC:=.seq f41_c3 (.seq (.cond (Qn 19) .skip (MC.exit 0)) (.seq (.blk 1 (.seq f41_c7 f41_c27)) f41_c30))
def f41_r37:List MO:=[Qa (Qv 50) (Qf 2 true (Qn 5)),Qa none (Ql 2 (Qn 4) (Qn 50))]
def f41_c37:MC:=.r0 f41_r37
def f41_c41:MC:=.seq f41_c1 (.seq (.seq f41_c2 (.blk 0 (.loop f41_c33))) (.seq f41_c37 .ret))
def f41_c42:MC:=.seq f41_c0 f41_c41
theorem f41_k : KK QP 41 f41 [2,3,3013] f41_c42 [(RV.cell 4 2 true)] 51 := by refine ⟨func41,?_,?_,?_,?_⟩<;>kernel_rfl
theorem f41_ok : callable QP 41 = true := by kernel_rfl
theorem f41_in (h : GI QP gp [(RV.cell 4 2 true)] res 51 f41_c42 args) : Does QP gp 41 args res := f41_k.i f41_ok h
def f45_r0:List MO:=[Qa (Qv 4) (MOp.alloc [(Qr Qu 0),(Qr Qu 0),(Qr Qu 0),(D.str (ByteArray.mk #[])),(D.str (ByteArray.mk #[])),(D.str (ByteArray.mk #[]))])]
def f45_c0:MC:=.r0 f45_r0
def f45_r1:List MO:=[Qa (Qv 10) (Qd (Qn 0)),Qa (Qv 11) (MOp.nck (Qn 10)),Qa (Qv 12) (Qg 0 (Qn 11)),Qa (Qv 13) (Qf 2 true (Qn 12)),Qa (Qv 14) (Qd (Qn 1)),Qa (Qv 15) (Qh 21 [(Qn 13),(Qn 14)]),Qa (Qv 9) (Qd (Qn 15)),Qa (Qv 16) (Qi (Qn 9) 0),Qa (Qv 17) (Qi (Qn 9) 1),Qa (Qv 5) (Qd (Qn 16)),Qa (Qv 6) (Qd (Qn 17))]
def f45_c1:MC:=.r0 f45_r1
def f45_r2:List MO:=[Qa (Qv 18) (Qd (Qn 5)),Qa (Qv 19) (Qk Qt (Qn 18)),Qa (Qv 20) (Qd (Qo (Qp (Qq (Qr Qu 0)))))]
def f45_c2:MC:=.r0 f45_r2
def f45_r3:List MO:=[Qa (Qv 21) (Qe Qt Go.BinOp.lss (Qn 20) (Qn 19))]
def f45_c3:MC:=.r0 f45_r3
def f45_r7:List MO:=[Qa (Qv 22) (Qd (Qn 20)),Qa (Qv 23) (Qj 1 (Qn 18) (Qn 20)),Qa (Qv 24) (Qf 1 false (Qn 23)),Qa (Qv 7) (Qd (Qn 22)),Qa (Qv 8) (Qd (Qn 24))]
def f45_c7:MC:=.r0 f45_r7
def f45_r8:List MO:=[Qa (Qv 25) (Qd (Qn 5)),Qa (Qv 26) (Qd (Qn 7)),Qa (Qv 27) (Qd (Qn 0)),Qa (Qv 28) (MOp.nck (Qn 27)),Qa (Qv 29) (Qg 2 (Qn 28)),Qa (Qv 30) (Qf 1 false (Qn 29)),Qa (Qv 31) (Qd (Qn 8)),Qa (Qv 32) (Qj 1 (Qn 30) (Qn 31)),Qa (Qv 33) (Qf 1 false (Qn 32)),Qa (Qv 34) (Qj 1 (Qn 25) (Qn 26)),Qa none (Ql 1 (Qn 34) (Qn 33))]
def f45_c8:MC:=.r0 f45_r8
def f45_r11:List MO:=[Qa (Qv 35) (Qe Qt Go.BinOp.add (Qn 20) (Qo (Qp (Qq (Qr Qu 1))))),Qa (Qv 20) (Qd (Qn 35))]
def f45_c11:MC:=.r0 f45_r11
def f45_c14:MC:=.seq f45_c3 (.seq (.cond (Qn 21) .skip (MC.exit 0)) (.seq (.blk 1 (.seq f45_c7 f45_c8)) f45_c11))
def f45_r18:List MO:=[Qa (Qv 36) (Qd (Qn 0)),Qa (Qv 37) (MOp.nck (Qn 36)),Qa (Qv 38) (Qg 0 (Qn 37)),Qa (Qv 39) (Qg 1 (Qn 38)),Qa (Qv 40) (Qf 1 false (Qn 39)),Qa (Qv 41) (Qd (Qn 1)),Qa (Qv 42) (Qj 6 (Qn 40) (Qn 41)),Qa (Qv 43) (Qg 0 (Qn 42)),Qa (Qv 44) (Qf 1 false (Qn 43)),Qa (Qv 45) (Qd (Qn 0)),Qa (Qv 46) (MOp.nck (Qn 45)),Qa (Qv 47) (Qg 0 (Qn 46)),Qa (Qv 48) (Qg 1 (Qn 47)),Qa (Qv 49) (Qf 1 false (Qn 48)),Qa (Qv 50) (Qd (Qn 1)),Qa (Qv 51) (Qj 6 (Qn 49) (Qn 50)),Qa (Qv 52) (Qg 1 (Qn 51)),Qa (Qv 53) (Qf 3 true (Qn 52)),Qa (Qv 54) (Qd (Qn 0)),Qa (Qv 55) (Qd (Qn 1)),Qa (Qv 56) (Qh 74 [(Qn 54),(Qn 55)]),Qa (Qv 57) (Qd (Qn 5)),Qa (Qv 58) (Qh 75 [(Qn 57)]),Qa (Qv 59) (MOp.build [(Qr Qu 0),(Qr Qu 0),(Qr Qu 0),(D.str (ByteArray.mk #[])),(D.str (ByteArray.mk #[])),(D.str (ByteArray.mk #[]))] [(0,(1,(Qn 44))),(1,(3,(Qn 53))),(4,(1,(Qn 56))),(5,(1,(Qn 58)))]),Qa none (Ql 6 (Qn 4) (Qn 59))]
def f45_c18:MC:=.reg true f45_r18
def f45_c22:MC:=.seq f45_c1 (.seq (.seq f45_c2 (.blk 0 (.loop f45_c14))) (.seq f45_c18 .ret))
def f45_c23:MC:=.seq f45_c0 f45_c22
attribute [go_sem] f45_r0 f45_r1 f45_r2 f45_r3 f45_r7 f45_r8 f45_r11 f45_r18
theorem f45_k : KK QP 45 f45 [] f45_c23 [(RV.cell 4 6 true)] 60 := by refine ⟨func45,?_,?_,?_,?_⟩<;>kernel_rfl
theorem f45_ok : callable QP 45 = true := by kernel_rfl
theorem f45_in (h : GI QP gp [(RV.cell 4 6 true)] res 60 f45_c23 args) : Does QP gp 45 args res := f45_k.i f45_ok h
def f71_r0:List MO:=[Qa (Qv 2) (Qd (Qo (Qp (Qq (Qr Qu 0)))))]
def f71_c0:MC:=.r0 f71_r0
def f71_r1:List MO:=[Qa (Qv 9) MOp.mkM,Qa (Qv 3) (MOp.alloc [(D.raw (Go.Value.map none))]),Qa none (Ql 1 (Qn 3) (Qn 9))]
def f71_c1:MC:=.r0 f71_r1
def f71_r2:List MO:=[Qa (Qv 10) (Qd (Qn 0)),Qa (Qv 11) (MOp.nck (Qn 10)),Qa (Qv 12) (Qg 2 (Qn 11)),Qa (Qv 13) (Qf 1 false (Qn 12)),Qa (Qv 14) (Qk Qt (Qn 13)),Qa (Qv 15) (MOp.mkS 1 8 [(Qr Qu 0)] (Qn 14)),Qa (Qv 4) (MOp.alloc [(D.sl [])]),Qa none (Ql 1 (Qn 4) (Qn 15))]
def f71_c2:MC:=.r0 f71_r2
def f71_r3:List MO:=[Qa (Qv 16) (Qd (Qn 0)),Qa (Qv 17) (Qh 97 [(Qn 16)])]
def f71_c3:MC:=.r0 f71_r3
def f71_r4:List MO:=[Qa (Qv 5) (Qd (Qn 18))]
def f71_c4:MC:=.r0 f71_r4
def f71_r5:List MO:=[Qa (Qv 6) (MOp.alloc [(Qr Qu 0),(Qr Qu 0),(Qr Qu 0),(D.str (ByteArray.mk #[])),(D.str (ByteArray.mk #[])),(D.str (ByteArray.mk #[]))]),Qa none (Ql 6 (Qn 6) (Qn 19))]
def f71_c5:MC:=.r0 f71_r5
def f71_r7:List MO:=[Qa (Qv 21) (Qf 1 false (Qn 3)),Qa (Qv 22) (Qf 6 true (Qn 6)),Qa (Qv 23) (MOp.lkp true (Qp (Qq (Qr Qu 0))) true [Qt,Qt,Qt,Leaf.s,Leaf.s,Leaf.s] (Qn 21) (Qn 22)),Qa (Qv 20) (Qd (Qn 23)),Qa (Qv 24) (Qi (Qn 20) 0),Qa (Qv 25) (Qi (Qn 20) 1),Qa (Qv 7) (Qd (Qn 24)),Qa (Qv 8) (Qd (Qn 25))]
def f71_c7:MC:=.r0 f71_r7
def f71_r8:List MO:=[Qa (Qv 26) (Qd (Qn 8)),Qa (Qv 27) (MOp.not (Qn 26))]
def f71_c8:MC:=.r0 f71_r8
def f71_r9:List MO:=[Qa (Qv 28) (Qf 1 false (Qn 3)),Qa (Qv 29) (Qf 6 true (Qn 6)),Qa (Qv 30) (Qf 1 false (Qn 3)),Qa (Qv 31) (Qk Leaf.b (Qn 30)),Qa none (MOp.mupd true [Qt,Qt,Qt,Leaf.s,Leaf.s,Leaf.s] (Qn 28) (Qn 29) (Qn 31))]
def f71_c9:MC:=.r0 f71_r9
def f71_r14:List MO:=[Qa (Qv 32) (Qf 1 false (Qn 4)),Qa (Qv 33) (Qd (Qn 5)),Qa (Qv 34) (Qf 1 false (Qn 3)),Qa (Qv 35) (Qf 6 true (Qn 6)),Qa (Qv 36) (MOp.lkp false (Qp (Qq (Qr Qu 0))) true [Qt,Qt,Qt,Leaf.s,Leaf.s,Leaf.s] (Qn 34) (Qn 35)),Qa (Qv 37) (Qj 1 (Qn 32) (Qn 33)),Qa none (Ql 1 (Qn 37) (Qn 36))]
def f71_c14:MC:=.reg true f71_r14
def f71_c15:MC:=.seq (.seq f71_c7 (.seq f71_c8 (.cond (Qn 27) f71_c9 .skip))) f71_c14
def f71_c17:MC:=.rf (Qn 17) [18,19] (.seq f71_c4 f71_c5) (.blk 1 f71_c15)
def f71_r20:List MO:=[Qa (Qv 38) (Qd (Qn 0)),Qa (Qv 39) (MOp.nck (Qn 38)),Qa (Qv 40) (Qg 2 (Qn 39)),Qa (Qv 41) (Qf 1 false (Qn 40)),Qa (Qv 42) (Qf 1 false (Qn 4)),Qa (Qv 43) (MOp.cpy 1 (Qn 41) (Qn 42))]
def f71_c20:MC:=.reg true f71_r20
def f71_r21:List MO:=[Qa (Qv 44) (Qf 1 false (Qn 3)),Qa (Qv 45) (Qk Leaf.b (Qn 44)),Qa (Qv 2) (Qd (Qn 45))]
def f71_c21:MC:=.r0 f71_r21
def f71_c25:MC:=.seq (.seq f71_c3 (.blk 0 f71_c17)) (.seq f71_c20 (.seq f71_c21 .ret))
def f71_c28:MC:=.seq f71_c0 (.seq f71_c1 (.seq f71_c2 f71_c25))
attribute [go_sem] f71_r0 f71_r1 f71_r2 f71_r3 f71_r4 f71_r5 f71_r7 f71_r8 f71_r9 f71_r14 f71_r20 f71_r21
theorem f71_k : KK QP 71 f71 [] f71_c28 [(RV.t 2)] 46 := by refine ⟨func71,?_,?_,?_,?_⟩<;>kernel_rfl
theorem f71_ok : callable QP 71 = true := by kernel_rfl
theorem f71_tri (h : GT QP gp [(RV.t 2)] pre R 46 f71_c28 args) : Tri QP gp 71 args pre R := f71_k.t h
def f73_r0:List MO:=[Qa (Qv 2) (Qd (Qo (Qp A.nil)))]
def f73_c0:MC:=.r0 f73_r0
def f73_r1:List MO:=[Qa (Qv 3) (Qd (Qn 0)),Qa (Qv 4) (MOp.nilq NK.sl false (Qn 3))]
def f73_c1:MC:=.r0 f73_r1
def f73_r2:List MO:=[Qa (Qv 2) (Qd (Qo (Qp A.nil)))]
def f73_c2:MC:=.r0 f73_r2
def f73_r8:List MO:=[Qa (Qv 5) (MOp.bslO 6 [(Qr Qu 0),(Qr Qu 0),(Qr Qu 0),(D.str (ByteArray.mk #[])),(D.sl []),(D.sl [])] 0 []),Qa (Qv 6) (Qd (Qn 0)),Qa (Qv 7) (MOp.app 44 6 88 (Qn 5) (Qn 6)),Qa (Qv 2) (Qd (Qn 7))]
def f73_c8:MC:=.r0 f73_r8
def f73_c12:MC:=.seq f73_c0 (.seq (.seq f73_c1 (.cond (Qn 4) (.seq f73_c2 .ret) .skip)) (.seq f73_c8 .ret))
theorem f73_k : KK QP 73 f73 [5] f73_c12 [(RV.t 2)] 8 := by refine ⟨func73,?_,?_,?_,?_⟩<;>kernel_rfl
theorem f73_ok : callable QP 73 = true := by kernel_rfl
theorem f73_tri (h : GT QP gp [(RV.t 2)] pre R 8 f73_c12 args) : Tri QP gp 73 args pre R := f73_k.t h
def f74_r0:List MO:=[Qa (Qv 4) (Qd (Qo (Qp (Qq (D.str (ByteArray.mk #[]))))))]
def f74_c0:MC:=.r0 f74_r0
def f74_r1:List MO:=[Qa (Qv 13) (Qd (Qn 0)),Qa (Qv 14) (MOp.nck (Qn 13)),Qa (Qv 15) (Qg 0 (Qn 14)),Qa (Qv 16) (Qf 2 true (Qn 15)),Qa (Qv 17) (Qd (Qn 1)),Qa (Qv 18) (Qh 64 [(Qn 16),(Qn 17)]),Qa (Qv 12) (Qd (Qn 18)),Qa (Qv 19) (Qi (Qn 12) 0),Qa (Qv 20) (Qi (Qn 12) 1),Qa (Qv 5) (Qd (Qn 19)),Qa (Qv 6) (Qd (Qn 20))]
def f74_c1:MC:=.r0 f74_r1
def f74_r2:List MO:=[Qa (Qv 7) (MOp.bldN 169 5)]
def f74_c2:MC:=.r0 f74_r2
def f74_r3:List MO:=[Qa (Qv 21) (Qd (Qn 5)),Qa (Qv 22) (Qk Qt (Qn 21)),Qa (Qv 23) (Qd (Qo (Qp (Qq (Qr Qu 0)))))]
def f74_c3:MC:=.r0 f74_r3
def f74_r4:List MO:=[Qa (Qv 24) (Qe Qt Go.BinOp.lss (Qn 23) (Qn 22))]
def f74_c4:MC:=.r0 f74_r4
def f74_r8:List MO:=[Qa (Qv 25) (Qj 3 (Qn 21) (Qn 23)),Qa (Qv 26) (Qf 3 true (Qn 25)),Qa (Qv 9) (MOp.alloc [(Qr Qu 0),(Qr Qu 0),(D.str (ByteArray.mk #[]))]),Qa none (Ql 3 (Qn 9) (Qn 26))]
def f74_c8:MC:=.r0 f74_r8
def f74_r9:List MO:=[Qa (Qv 28) (Qf 3 true (Qn 9)),Qa (Qv 29) (Qh 100 [(Qn 28)]),Qa (Qv 27) (Qd (Qn 29)),Qa (Qv 30) (Qi (Qn 27) 0),Qa (Qv 31) (Qi (Qn 27) 1),Qa (Qv 10) (Qd (Qn 30)),Qa (Qv 11) (Qd (Qn 31))]
def f74_c9:MC:=.r0 f74_r9
def f74_r10:List MO:=[Qa (Qv 32) (Qd (Qn 10)),Qa (Qv 33) (Qe Leaf.s Go.BinOp.add (Qn 32) (Qo (Qp (Qq (D.str (ByteArray.mk #[44])))))),Qa (Qv 34) (Qh 101 [(Qn 7),(Qn 33)])]
def f74_c10:MC:=.r0 f74_r10
def f74_r14:List MO:=[Qa (Qv 35) (Qe Qt Go.BinOp.add (Qn 23) (Qo (Qp (Qq (Qr Qu 1))))),Qa (Qv 23) (Qd (Qn 35))]
def f74_c14:MC:=.r0 f74_r14
def f74_c15:MC:=.seq (.blk 1 (.seq f74_c8 (.seq f74_c9 f74_c10))) f74_c14
def f74_r21:List MO:=[Qa (Qv 36) (Qh 102 [(Qn 7)]),Qa (Qv 4) (Qd (Qn 36))]
def f74_c21:MC:=.r0 f74_r21
def f74_c24:MC:=.seq (.seq f74_c3 (.blk 0 (.loop (.seq f74_c4 (.seq (.cond (Qn 24) .skip (MC.exit 0)) f74_c15))))) (.seq f74_c21 .ret)
def f74_c27:MC:=.seq f74_c0 (.seq f74_c1 (.seq f74_c2 f74_c24))
attribute [go_sem] f74_r0 f74_r1 f74_r2 f74_r3 f74_r4 f74_r8 f74_r9 f74_r10 f74_r14 f74_r21
theorem f74_k : KK QP 74 f74 [] f74_c27 [(RV.t 4)] 37 := by refine ⟨func74,?_,?_,?_,?_⟩<;>kernel_rfl
theorem f74_ok : callable QP 74 = true := by kernel_rfl
theorem f74_in (h : GI QP gp [(RV.t 4)] res 37 f74_c27 args) : Does QP gp 74 args res := f74_k.i f74_ok h
def f75_r0:List MO:=[Qa (Qv 2) (Qd (Qo (Qp (Qq (D.str (ByteArray.mk #[]))))))]
def f75_c0:MC:=.r0 f75_r0
def f75_r1:List MO:=[Qa (Qv 3) (MOp.bldN 169 5)]
def f75_c1:MC:=.r0 f75_r1
def f75_r2:List MO:=[Qa (Qv 6) (Qd (Qn 0)),Qa (Qv 7) (Qk Qt (Qn 6)),Qa (Qv 8) (Qd (Qo (Qp (Qq (Qr Qu 0)))))]
def f75_c2:MC:=.r0 f75_r2
def f75_r3:List MO:=[Qa (Qv 9) (Qe Qt Go.BinOp.lss (Qn 8) (Qn 7))]
def f75_c3:MC:=.r0 f75_r3
def f75_r7:List MO:=[Qa (Qv 10) (Qj 1 (Qn 6) (Qn 8)),Qa (Qv 11) (Qf 1 false (Qn 10)),Qa (Qv 5) (Qd (Qn 11))]
def f75_c7:MC:=.r0 f75_r7
def f75_r8:List MO:=[Qa (Qv 12) (Qd (Qn 5)),Qa (Qv 13) (Qh 103 [(Qn 12)]),Qa (Qv 14) (Qe Leaf.s Go.BinOp.add (Qn 13) (Qo (Qp (Qq (D.str (ByteArray.mk #[44])))))),Qa (Qv 15) (Qh 101 [(Qn 3),(Qn 14)])]
def f75_c8:MC:=.r0 f75_r8
def f75_r11:List MO:=[Qa (Qv 16) (Qe Qt Go.BinOp.add (Qn 8) (Qo (Qp (Qq (Qr Qu 1))))),Qa (Qv 8) (Qd (Qn 16))]
def f75_c11:MC:=.r0 f75_r11
def f75_c14:MC:=.seq f75_c3 (.seq (.cond (Qn 9) .skip (MC.exit 0)) (.seq (.blk 1 (.seq f75_c7 f75_c8)) f75_c11))
def f75_r18:List MO:=[Qa (Qv 17) (Qh 102 [(Qn 3)]),Qa (Qv 2) (Qd (Qn 17))]
def f75_c18:MC:=.r0 f75_r18
def f75_c22:MC:=.seq f75_c1 (.seq (.seq f75_c2 (.blk 0 (.loop f75_c14))) (.seq f75_c18 .ret))
def f75_c23:MC:=.seq f75_c0 f75_c22
attribute [go_sem] f75_r0 f75_r1 f75_r2 f75_r3 f75_r7 f75_r8 f75_r11 f75_r18
theorem f75_k : KK QP 75 f75 [] f75_c23 [(RV.t 2)] 18 := by refine ⟨func75,?_,?_,?_,?_⟩<;>kernel_rfl
theorem f75_ok : callable QP 75 = true := by kernel_rfl
theorem f75_in (h : GI QP gp [(RV.t 2)] res 18 f75_c23 args) : Does QP gp 75 args res := f75_k.i f75_ok h
def f97_r0:List MO:=[Qa (Qv 1) (MOp.box (Qn 0)),Qa (Qv 2) (Qd (Qo (Qp (Qq D.nilF))))]
def f97_c0:MC:=.r0 f97_r0
def f97_r1:List MO:=[Qa (Qv 3) (MOp.mkF (Go.Fn.func 125) [(Qn 1)]),Qa (Qv 2) (Qd (Qn 3))]
def f97_c1:MC:=.r0 f97_r1
def f97_c4:MC:=.seq f97_c0 (.seq f97_c1 .ret)
attribute [go_sem] f97_r0 f97_r1
theorem f97_k : KK QP 97 f97 [] f97_c4 [(RV.t 2)] 4 := by refine ⟨func97,?_,?_,?_,?_⟩<;>kernel_rfl
theorem f97_ok : callable QP 97 = true := by kernel_rfl
theorem f97_tri (h : GT QP gp [(RV.t 2)] pre R 4 f97_c4 args) : Tri QP gp 97 args pre R := f97_k.t h
def f125_r1:List MO:=[Qa (Qv 4) (Qf 1 false (Qn 1)),Qa (Qv 5) (MOp.nck (Qn 4)),Qa (Qv 6) (Qg 0 (Qn 5)),Qa (Qv 7) (Qg 1 (Qn 6)),Qa (Qv 8) (Qf 1 false (Qn 7)),Qa (Qv 9) (Qk Qt (Qn 8)),Qa (Qv 10) (Qd (Qo (Qp (Qq (Qr Qu 0)))))]
def f125_c1:MC:=.r0 f125_r1
def f125_r2:List MO:=[Qa (Qv 11) (Qe Qt Go.BinOp.lss (Qn 10) (Qn 9))]
def f125_c2:MC:=.r0 f125_r2
def f125_r6:List MO:=[Qa (Qv 12) (Qd (Qn 10)),Qa (Qv 3) (Qd (Qn 12))]
def f125_c6:MC:=.r0 f125_r6
def f125_r7:List MO:=[Qa (Qv 13) (Qd (Qn 0)),Qa (Qv 14) (Qd (Qn 3)),Qa (Qv 15) (Qf 1 false (Qn 1)),Qa (Qv 16) (Qd (Qn 3)),Qa (Qv 17) (Qh 45 [(Qn 15),(Qn 16)]),Qa (Qv 18) (MOp.callv (Qn 13) [(Qn 14),(Qn 17)]),Qa (Qv 19) (MOp.not (Qn 18))]
def f125_c7:MC:=.r0 f125_r7
def f125_r14:List MO:=[Qa (Qv 20) (Qe Qt Go.BinOp.add (Qn 10) (Qo (Qp (Qq (Qr Qu 1))))),Qa (Qv 10) (Qd (Qn 20))]
def f125_c14:MC:=.r0 f125_r14
def f125_c17:MC:=.seq f125_c2 (.seq (.cond (Qn 11) .skip (MC.exit 0)) (.seq (.blk 1 (.seq f125_c6 (.seq f125_c7 (.cond (Qn 19) (MC.exit 0) .skip)))) f125_c14))
def f125_c22:MC:=.scope (.seq .skip (.seq f125_c1 (.blk 0 (.loop f125_c17))))
attribute [go_sem] f125_r1 f125_r2 f125_r6 f125_r7 f125_r14
theorem f125_k : KK QP 125 f125 [] f125_c22 [] 21 := by refine ⟨func125,?_,?_,?_,?_⟩<;>kernel_rfl
theorem f125_ok : callable QP 125 = true := by kernel_rfl
theorem f125_tri (h : GT QP gp [] pre R 21 f125_c22 args) : Tri QP gp 125 args pre R := f125_k.t h
end Go.Fw.L07
