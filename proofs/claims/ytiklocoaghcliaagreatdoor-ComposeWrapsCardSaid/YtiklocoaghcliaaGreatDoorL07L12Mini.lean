/- Small codes. -/
import Derived.Test.YtiklocoaghcliaaGreatDoorFd
import Derived.Test.YtiklocoaghcliaaGreatDoorProg
set_option linter.all false
namespace Go.Fw.L07
open Go Go.Fw
open Go.Proofs.Tryz renaming prog -> QP
open Go.Proofs.Tryz (f101 f27 f28 f52 f53 f54 f55 f76 f77 func101 func27 func28 func52 func53 func54 func55 func76 func77)
open Go.Fw.MO renaming op -> Qa,opx -> Qc
open Go.Fw.MOp renaming mv -> Qd,bin -> Qe,load -> Qf,fad -> Qg,call -> Qh,ext -> Qi,iad -> Qj,len -> Qk,store -> Ql
open Go.Fw.Opd renaming t -> Qn,c -> Qo
open Go.Fw.V renaming one -> Qp
open Go.Fw.A renaming d -> Qq
open Go.Fw.D renaming int -> Qr,bool -> Qs
open Go.Fw.Leaf renaming i -> Qt
open Go.IntKind renaming i64 -> Qu
open Option renaming some -> Qv
variable {gp : Heap} {args : List V} {res : V} {pre : List Ch} {R : V -> List Ch -> Prop}
def f27_r0:List MO:=[Qa (Qv 1) (MOp.ibox (Qn 0)),Qa (Qv 2) (Qd (Qo (Qp A.nil))),Qa (Qv 3) (Qd (Qo (Qp (Qq (Qr Qu 0)))))]
def f27_c0:MC:=.r0 f27_r0
def f27_r1:List MO:=[Qa (Qv 8) (Qf 2 true (Qn 1)),Qa (Qv 9) (Qh 52 [(Qn 8)]),Qa (Qv 7) (Qd (Qn 9)),Qa (Qv 10) (Qi (Qn 7) 0),Qa (Qv 11) (Qi (Qn 7) 1),Qa (Qv 4) (MOp.alloc [D.nilP]),Qa none (Ql 1 (Qn 4) (Qn 10)),Qa (Qv 5) (Qd (Qn 11))]
def f27_c1:MC:=.r0 f27_r1
def f27_r2:List MO:=[Qa (Qv 12) (Qd (Qn 5)),Qa (Qv 13) (Qe Qt Go.BinOp.neq (Qn 12) (Qo (Qp (Qq (Qr Qu 0)))))]
def f27_c2:MC:=.r0 f27_r2
def f27_r3:List MO:=[Qa (Qv 14) (Qd (Qn 5)),Qa (Qv 2) (Qd (Qo (Qp A.nil))),Qa (Qv 3) (Qd (Qn 14))]
def f27_c3:MC:=.r0 f27_r3
def f27_r9:List MO:=[Qa (Qv 6) (MOp.alloc [D.nilF])]
def f27_c9:MC:=.r0 f27_r9
def f27_r10:List MO:=[Qa (Qv 15) (MOp.mkF (Go.Fn.func 53) [(Qn 4),(Qn 6)]),Qa none (Ql 1 (Qn 6) (Qn 15))]
def f27_c10:MC:=.r0 f27_r10
def f27_r11:List MO:=[Qa (Qv 16) (Qf 1 false (Qn 6)),Qa (Qv 17) (Qf 1 false (Qn 4)),Qa (Qv 18) (MOp.nck (Qn 17)),Qa (Qv 19) (Qg 0 (Qn 18)),Qa (Qv 20) (Qg 0 (Qn 19)),Qa (Qv 21) (Qf 1 false (Qn 20)),Qc (Qv 22) (MOp.callv (Qn 16) [(Qn 21),(Qo (Qp (Qq (Qr Qu 1))))])]
def f27_c11:MC:=.reg true f27_r11
def f27_r12:List MO:=[Qa (Qv 23) (Qf 1 false (Qn 4)),Qa (Qv 24) (MOp.nck (Qn 23)),Qa (Qv 25) (Qg 2 (Qn 24)),Qa (Qv 26) (Qf 1 false (Qn 25)),Qa (Qv 2) (Qd (Qn 26)),Qa (Qv 3) (Qd (Qo (Qp (Qq (Qr Qu 0)))))]
def f27_c12:MC:=.r0 f27_r12
def f27_c17:MC:=.seq f27_c9 (.seq f27_c10 (.seq f27_c11 (.seq f27_c12 .ret)))
def f27_c19:MC:=.seq f27_c1 (.seq (.seq f27_c2 (.cond (Qn 13) (.seq f27_c3 .ret) .skip)) f27_c17)
def f27_c20:MC:=.seq f27_c0 f27_c19
attribute [go_sem] f27_r0 f27_r2 f27_r3 f27_r9 f27_r10 f27_r11
theorem f27_k : KK QP 27 f27 [1] f27_c20 [(RV.t 2),(RV.t 3)] 27 := by refine ⟨func27,?_,?_,?_,?_⟩<;>kernel_rfl
theorem f27_ok : callable QP 27 = true := by kernel_rfl
theorem f27_in (h : GI QP gp [(RV.t 2),(RV.t 3)] res 27 f27_c20 args) : Does QP gp 27 args res := f27_k.i f27_ok h
def f28_r0:List MO:=[Qa (Qv 1) (MOp.ibox (Qn 0)),Qa (Qv 2) (Qd (Qo (Qp A.nil))),Qa (Qv 3) (Qd (Qo (Qp (Qq (Qr Qu 0)))))]
def f28_c0:MC:=.r0 f28_r0
def f28_r1:List MO:=[Qa (Qv 12) (Qf 2 true (Qn 1)),Qa (Qv 13) (Qh 52 [(Qn 12)]),Qa (Qv 11) (Qd (Qn 13)),Qa (Qv 14) (Qi (Qn 11) 0),Qa (Qv 15) (Qi (Qn 11) 1),Qa (Qv 4) (Qd (Qn 14)),Qa (Qv 5) (Qd (Qn 15))]
def f28_c1:MC:=.r0 f28_r1
def f28_r2:List MO:=[Qa (Qv 16) (Qd (Qn 5)),Qa (Qv 17) (Qe Qt Go.BinOp.neq (Qn 16) (Qo (Qp (Qq (Qr Qu 0)))))]
def f28_c2:MC:=.r0 f28_r2
def f28_r3:List MO:=[Qa (Qv 18) (Qd (Qn 5)),Qa (Qv 2) (Qd (Qo (Qp A.nil))),Qa (Qv 3) (Qd (Qn 18))]
def f28_c3:MC:=.r0 f28_r3
def f28_r9:List MO:=[Qa (Qv 19) (Qd (Qn 4)),Qa (Qv 20) (MOp.mkMv (Go.Fn.func 54) (Qn 19)),Qa (Qv 6) (Qd (Qn 20))]
def f28_c9:MC:=.r0 f28_r9
def f28_r10:List MO:=[Qa (Qv 21) MOp.mkM,Qa (Qv 7) (Qd (Qn 21))]
def f28_c10:MC:=.r0 f28_r10
def f28_r11:List MO:=[Qa (Qv 8) (Qd (Qo (Qp A.nil)))]
def f28_c11:MC:=.r0 f28_r11
def f28_r12:List MO:=[Qa (Qv 22) (Qd (Qn 4)),Qa (Qv 23) (Qh 55 [(Qn 22)]),Qa (Qv 24) (Qk Qt (Qn 23)),Qa (Qv 25) (Qd (Qo (Qp (Qq (Qr Qu 0)))))]
def f28_c12:MC:=.r0 f28_r12
def f28_r13:List MO:=[Qa (Qv 26) (Qe Qt Go.BinOp.lss (Qn 25) (Qn 24))]
def f28_c13:MC:=.r0 f28_r13
def f28_r17:List MO:=[Qa (Qv 27) (Qd (Qn 25)),Qa (Qv 28) (Qj 1 (Qn 23) (Qn 25)),Qa (Qv 29) (Qf 1 false (Qn 28)),Qa (Qv 9) (Qd (Qn 27)),Qa (Qv 10) (Qd (Qn 29))]
def f28_c17:MC:=.r0 f28_r17
def f28_r18:List MO:=[Qa (Qv 30) (Qd (Qn 6)),Qa (Qv 31) (Qd (Qn 9)),Qa (Qv 32) (Qd (Qn 10)),Qa (Qv 33) (MOp.callv (Qn 30) [(Qn 31),(Qn 32)])]
def f28_c18:MC:=.r0 f28_r18
def f28_r19:List MO:=[Qa (Qv 34) (Qd (Qn 7)),Qa (Qv 35) (Qd (Qn 9)),Qa none (MOp.mupd false [Qt] (Qn 34) (Qn 35) (Qo (Qp (Qq (Qs true)))))]
def f28_c19:MC:=.r0 f28_r19
def f28_r20:List MO:=[Qa (Qv 36) (Qd (Qn 8)),Qa (Qv 37) (Qd (Qn 7)),Qa (Qv 38) (Qk Leaf.b (Qn 37)),Qa (Qv 39) (MOp.bslice 1 [(Qr Qu 0)] 1 [(0,(Qn 38))]),Qa (Qv 40) (MOp.app 3 1 8 (Qn 36) (Qn 39)),Qa (Qv 8) (Qd (Qn 40))]
def f28_c20:MC:=.r0 f28_r20
def f28_r27:List MO:=[Qa (Qv 41) (Qd (Qn 8)),Qa (Qv 42) (MOp.bslice 1 [(Qr Qu 0)] 1 [(0,(Qo (Qp (Qq (Qr Qu 0)))))]),Qa (Qv 43) (MOp.app 3 1 8 (Qn 41) (Qn 42)),Qa (Qv 8) (Qd (Qn 43))]
def f28_c27:MC:=.r0 f28_r27
def f28_c28:MC:=.seq (.seq f28_c18 (.cond (Qn 33) (.seq f28_c19 (.seq f28_c20 (MC.exit 1))) .skip)) f28_c27
def f28_r31:List MO:=[Qa (Qv 44) (Qe Qt Go.BinOp.add (Qn 25) (Qo (Qp (Qq (Qr Qu 1))))),Qa (Qv 25) (Qd (Qn 44))]
def f28_c31:MC:=.r0 f28_r31
def f28_c34:MC:=.seq f28_c13 (.seq (.cond (Qn 26) .skip (MC.exit 0)) (.seq (.blk 1 (.seq f28_c17 f28_c28)) f28_c31))
def f28_r38:List MO:=[Qa (Qv 45) (Qd (Qn 8)),Qa (Qv 2) (Qd (Qn 45)),Qa (Qv 3) (Qd (Qo (Qp (Qq (Qr Qu 0)))))]
def f28_c38:MC:=.r0 f28_r38
def f28_c42:MC:=.seq f28_c11 (.seq (.seq f28_c12 (.blk 0 (.loop f28_c34))) (.seq f28_c38 .ret))
def f28_c45:MC:=.seq (.seq f28_c2 (.cond (Qn 17) (.seq f28_c3 .ret) .skip)) (.seq f28_c9 (.seq f28_c10 f28_c42))
def f28_c47:MC:=.seq f28_c0 (.seq f28_c1 f28_c45)
attribute [go_sem] f28_r0 f28_r2 f28_r3 f28_r9 f28_r10 f28_r11 f28_r12 f28_r13 f28_r17 f28_r18 f28_r19 f28_r20 f28_r27 f28_r31 f28_r38
theorem f28_k : KK QP 28 f28 [1] f28_c47 [(RV.t 2),(RV.t 3)] 46 := by refine ⟨func28,?_,?_,?_,?_⟩<;>kernel_rfl
theorem f28_ok : callable QP 28 = true := by kernel_rfl
theorem f28_in (h : GI QP gp [(RV.t 2),(RV.t 3)] res 46 f28_c47 args) : Does QP gp 28 args res := f28_k.i f28_ok h
def f52_r0:List MO:=[Qa (Qv 1) (MOp.ibox (Qn 0)),Qa (Qv 2) (Qd (Qo (Qp (Qq D.nilP)))),Qa (Qv 3) (Qd (Qo (Qp (Qq (Qr Qu 0)))))]
def f52_c0:MC:=.r0 f52_r0
def f52_r1:List MO:=[Qa (Qv 4) (Qf 2 true (Qn 1)),Qa (Qv 5) (Qh 26 [(Qn 4)]),Qa (Qv 6) (MOp.not (Qn 5))]
def f52_c1:MC:=.r0 f52_r1
def f52_r2:List MO:=[Qa (Qv 2) (Qd (Qo (Qp (Qq D.nilP)))),Qa (Qv 3) (Qd (Qo (Qp (Qq (Qr Qu 72)))))]
def f52_c2:MC:=.r0 f52_r2
def f52_r8:List MO:=[Qa (Qv 7) (Qf 2 true (Qn 1)),Qa (Qv 8) (Qg 1 (Qn 1)),Qa (Qv 9) (Qf 1 false (Qn 8)),Qa (Qv 10) (Qk Qt (Qn 9)),Qa (Qv 11) (MOp.mkS 1 8 [(Qr Qu 0)] (Qn 10)),Qa (Qv 12) (MOp.build [(Qr Qu 0),(D.sl []),(D.sl [])] [(0,(2,(Qn 7))),(2,(1,(Qn 11)))]),Qa (Qv 13) (MOp.box (Qn 12)),Qa (Qv 2) (Qd (Qn 13)),Qa (Qv 3) (Qd (Qo (Qp (Qq (Qr Qu 0)))))]
def f52_c8:MC:=.reg true f52_r8
def f52_c12:MC:=.seq f52_c0 (.seq (.seq f52_c1 (.cond (Qn 6) (.seq f52_c2 .ret) .skip)) (.seq f52_c8 .ret))
attribute [go_sem] f52_r0 f52_r1 f52_r2 f52_r8
theorem f52_k : KK QP 52 f52 [1] f52_c12 [(RV.t 2),(RV.t 3)] 14 := by refine ⟨func52,?_,?_,?_,?_⟩<;>kernel_rfl
theorem f52_ok : callable QP 52 = true := by kernel_rfl
theorem f52_tri (h : GT QP gp [(RV.t 2),(RV.t 3)] pre R 14 f52_c12 args) : Tri QP gp 52 args pre R := f52_k.t h
def f53_r0:List MO:=[Qa (Qv 8) (Qf 1 false (Qn 2)),Qa (Qv 9) (MOp.nck (Qn 8)),Qa (Qv 10) (Qg 2 (Qn 9)),Qa (Qv 11) (Qf 1 false (Qn 10)),Qa (Qv 12) (Qd (Qn 0)),Qa (Qv 13) (Qj 1 (Qn 11) (Qn 12)),Qa (Qv 14) (Qf 1 false (Qn 13)),Qa (Qv 15) (Qe Qt Go.BinOp.gtr (Qn 14) (Qo (Qp (Qq (Qr Qu 0)))))]
def f53_c0:MC:=.r0 f53_r0
def f53_r5:List MO:=[Qa (Qv 16) (Qf 1 false (Qn 2)),Qa (Qv 17) (MOp.nck (Qn 16)),Qa (Qv 18) (Qg 2 (Qn 17)),Qa (Qv 19) (Qf 1 false (Qn 18)),Qa (Qv 20) (Qd (Qn 0)),Qa (Qv 21) (Qd (Qn 1)),Qa (Qv 22) (Qj 1 (Qn 19) (Qn 20)),Qa none (Ql 1 (Qn 22) (Qn 21))]
def f53_c5:MC:=.r0 f53_r5
def f53_r6:List MO:=[Qa (Qv 23) (Qf 1 false (Qn 2)),Qa (Qv 24) (MOp.nck (Qn 23)),Qa (Qv 25) (Qg 0 (Qn 24)),Qa (Qv 26) (Qg 1 (Qn 25)),Qa (Qv 27) (Qf 1 false (Qn 26)),Qa (Qv 28) (Qd (Qn 0)),Qa (Qv 29) (Qj 6 (Qn 27) (Qn 28)),Qa (Qv 30) (Qg 5 (Qn 29)),Qa (Qv 31) (Qf 1 false (Qn 30)),Qa (Qv 32) (Qk Qt (Qn 31)),Qa (Qv 33) (Qd (Qo (Qp (Qq (Qr Qu 0)))))]
def f53_c6:MC:=.r0 f53_r6
def f53_r7:List MO:=[Qa (Qv 34) (Qe Qt Go.BinOp.lss (Qn 33) (Qn 32))]
def f53_c7:MC:=.r0 f53_r7
def f53_r11:List MO:=[Qa (Qv 35) (Qj 1 (Qn 31) (Qn 33)),Qa (Qv 36) (Qf 1 false (Qn 35)),Qa (Qv 7) (Qd (Qn 36))]
def f53_c11:MC:=.r0 f53_r11
def f53_r12:List MO:=[Qa (Qv 37) (Qf 1 false (Qn 3)),Qa (Qv 38) (Qd (Qn 7)),Qa (Qv 39) (Qd (Qn 1)),Qa (Qv 40) (Qe Qt Go.BinOp.add (Qn 39) (Qo (Qp (Qq (Qr Qu 1))))),Qa (Qv 41) (MOp.callv (Qn 37) [(Qn 38),(Qn 40)])]
def f53_c12:MC:=.r0 f53_r12
def f53_r15:List MO:=[Qa (Qv 42) (Qe Qt Go.BinOp.add (Qn 33) (Qo (Qp (Qq (Qr Qu 1))))),Qa (Qv 33) (Qd (Qn 42))]
def f53_c15:MC:=.r0 f53_r15
def f53_c18:MC:=.seq f53_c7 (.seq (.cond (Qn 34) .skip (MC.exit 0)) (.seq (.blk 1 (.seq f53_c11 f53_c12)) f53_c15))
def f53_c23:MC:=.seq (.seq f53_c0 (.cond (Qn 15) .ret .skip)) (.seq f53_c5 (.seq f53_c6 (.blk 0 (.loop f53_c18))))
attribute [go_sem] f53_r0 f53_r5 f53_r6 f53_r7 f53_r11 f53_r12 f53_r15
theorem f53_k : KK QP 53 f53 [] f53_c23 [] 43 := by refine ⟨func53,?_,?_,?_,?_⟩<;>kernel_rfl
theorem f53_ok : callable QP 53 = true := by kernel_rfl
theorem f53_tri (h : GT QP gp [] pre R 43 f53_c23 args) : Tri QP gp 53 args pre R := f53_k.t h
def f54_r0:List MO:=[Qa (Qv 6) (Qd (Qo (Qp (Qq (Qs false)))))]
def f54_c0:MC:=.r0 f54_r0
def f54_r1:List MO:=[Qa (Qv 8) (Qd (Qn 0)),Qa (Qv 9) (MOp.nck (Qn 8)),Qa (Qv 10) (Qg 0 (Qn 9)),Qa (Qv 11) (Qg 1 (Qn 10)),Qa (Qv 12) (Qf 1 false (Qn 11)),Qa (Qv 13) (Qd (Qn 1)),Qa (Qv 14) (Qj 6 (Qn 12) (Qn 13)),Qa (Qv 15) (Qf 6 true (Qn 14)),Qa (Qv 7) (MOp.alloc [(Qr Qu 0),(Qr Qu 0),(Qr Qu 0),(D.str (ByteArray.mk #[])),(D.sl []),(D.sl [])]),Qa none (Ql 6 (Qn 7) (Qn 15))]
def f54_c1:MC:=.r0 f54_r1
def f54_r2:List MO:=[Qa (Qv 17) (Qh 76 []),Qa (Qv 18) (Qg 0 (Qn 7)),Qa (Qv 19) (Qf 1 false (Qn 18)),Qa (Qv 20) (MOp.idxA 3 (Qn 17) (Qn 19)),Qa (Qv 21) (MOp.not (Qn 20)),Qa (Qv 16) (Qd (Qn 21))]
def f54_c2:MC:=.reg true f54_r2
def f54_r7:List MO:=[Qa (Qv 23) (Qg 5 (Qn 7)),Qa (Qv 24) (Qf 1 false (Qn 23)),Qa (Qv 25) (Qk Qt (Qn 24)),Qa (Qv 26) (Qe Qt Go.BinOp.eql (Qn 25) (Qo (Qp (Qq (Qr Qu 0))))),Qa (Qv 22) (Qd (Qn 26))]
def f54_c7:MC:=.r0 f54_r7
def f54_r17:List MO:=[Qa (Qv 6) (Qd (Qo (Qp (Qq (Qs false)))))]
def f54_c17:MC:=.r0 f54_r17
def f54_c24:MC:=.seq f54_c1 (.blk 0 (.seq (.blk 2 (.blk 1 (.seq (.seq (.seq f54_c2 (.cond (Qn 16) (MC.exit 1) .skip)) (.seq f54_c7 (.cond (Qn 22) (MC.exit 2) .skip))) (MC.exit 0)))) (.seq (.seq f54_c17 .ret) (MC.exit 0))))
def f54_r25:List MO:=[Qa (Qv 27) (Qd (Qn 2)),Qa (Qv 28) (Qe Qt Go.BinOp.gtr (Qn 27) (Qo (Qp (Qq (Qr Qu 1))))),Qa (Qv 6) (Qd (Qn 28))]
def f54_c25:MC:=.r0 f54_r25
def f54_c29:MC:=.seq f54_c0 (.seq f54_c24 (.seq f54_c25 .ret))
attribute [go_sem] f54_r0 f54_r1 f54_r2 f54_r7 f54_r17 f54_r25
theorem f54_k : KK QP 54 f54 [] f54_c29 [(RV.t 6)] 29 := by refine ⟨func54,?_,?_,?_,?_⟩<;>kernel_rfl
theorem f54_ok : callable QP 54 = true := by kernel_rfl
theorem f54_tri (h : GT QP gp [(RV.t 6)] pre R 29 f54_c29 args) : Tri QP gp 54 args pre R := f54_k.t h
def f55_r0:List MO:=[Qa (Qv 1) (MOp.box (Qn 0)),Qa (Qv 2) (Qd (Qo (Qp A.nil)))]
def f55_c0:MC:=.r0 f55_r0
def f55_r1:List MO:=[Qa (Qv 4) (Qf 1 false (Qn 1)),Qa (Qv 5) (MOp.nck (Qn 4)),Qa (Qv 6) (Qg 2 (Qn 5)),Qa (Qv 7) (Qf 1 false (Qn 6)),Qa (Qv 8) (Qj 1 (Qn 7) (Qo (Qp (Qq (Qr Qu 0))))),Qa (Qv 9) (Qf 1 false (Qn 8)),Qa (Qv 10) (Qe Qt Go.BinOp.add (Qn 9) (Qo (Qp (Qq (Qr Qu 1))))),Qa (Qv 11) (Qj 1 (Qn 7) (Qo (Qp (Qq (Qr Qu 0))))),Qa none (Ql 1 (Qn 11) (Qn 10))]
def f55_c1:MC:=.r0 f55_r1
def f55_r2:List MO:=[Qa (Qv 12) (Qf 1 false (Qn 1)),Qa (Qv 13) (Qh 77 [(Qn 12)])]
def f55_c2:MC:=.r0 f55_r2
def f55_r3:List MO:=[Qa (Qv 3) (MOp.alloc [(Qr Qu 0),(Qr Qu 0)]),Qa none (Ql 2 (Qn 3) (Qn 14))]
def f55_c3:MC:=.r0 f55_r3
def f55_r4:List MO:=[Qa (Qv 15) (Qf 1 false (Qn 1)),Qa (Qv 16) (MOp.nck (Qn 15)),Qa (Qv 17) (Qg 2 (Qn 16)),Qa (Qv 18) (Qf 1 false (Qn 17)),Qa (Qv 19) (Qg 1 (Qn 3)),Qa (Qv 20) (Qf 1 false (Qn 19)),Qa (Qv 21) (Qj 1 (Qn 18) (Qn 20)),Qa (Qv 22) (Qf 1 false (Qn 21)),Qa (Qv 23) (Qe Qt Go.BinOp.add (Qn 22) (Qo (Qp (Qq (Qr Qu 1))))),Qa (Qv 24) (Qj 1 (Qn 18) (Qn 20)),Qa none (Ql 1 (Qn 24) (Qn 23))]
def f55_c4:MC:=.reg true f55_r4
def f55_c6:MC:=.rf (Qn 13) [14] f55_c3 (.blk 1 f55_c4)
def f55_r9:List MO:=[Qa (Qv 25) (Qf 1 false (Qn 1)),Qa (Qv 26) (MOp.nck (Qn 25)),Qa (Qv 27) (Qg 2 (Qn 26)),Qa (Qv 28) (Qf 1 false (Qn 27)),Qa (Qv 2) (Qd (Qn 28))]
def f55_c9:MC:=.r0 f55_r9
def f55_c13:MC:=.seq f55_c1 (.seq (.seq f55_c2 (.blk 0 f55_c6)) (.seq f55_c9 .ret))
def f55_c14:MC:=.seq f55_c0 f55_c13
attribute [go_sem] f55_r0 f55_r1 f55_r2 f55_r3 f55_r4 f55_r9
theorem f55_k : KK QP 55 f55 [] f55_c14 [(RV.t 2)] 29 := by refine ⟨func55,?_,?_,?_,?_⟩<;>kernel_rfl
theorem f55_ok : callable QP 55 = true := by kernel_rfl
theorem f55_tri (h : GT QP gp [(RV.t 2)] pre R 29 f55_c14 args) : Tri QP gp 55 args pre R := f55_k.t h
def f76_r0:List MO:=[Qa (Qv 0) (MOp.alloc [(Qs false),(Qs false),(Qs false)])]
def f76_c0:MC:=.r0 f76_r0
def f76_r1:List MO:=[Qa (Qv 1) (MOp.build [(Qs false),(Qs false),(Qs false)] [(1,(1,(Qo (Qp (Qq (Qs true)))))),(2,(1,(Qo (Qp (Qq (Qs true))))))]),Qa none (Ql 3 (Qn 0) (Qn 1))]
def f76_c1:MC:=.r0 f76_r1
def f76_c4:MC:=.seq f76_c0 (.seq f76_c1 .ret)
attribute [go_sem] f76_r0 f76_r1
theorem f76_k : KK QP 76 f76 [] f76_c4 [(RV.cell 0 3 true)] 2 := by refine ⟨func76,?_,?_,?_,?_⟩<;>kernel_rfl
theorem f76_ok : callable QP 76 = true := by kernel_rfl
theorem f76_in (h : GI QP gp [(RV.cell 0 3 true)] res 2 f76_c4 args) : Does QP gp 76 args res := f76_k.i f76_ok h
def f77_r0:List MO:=[Qa (Qv 1) (MOp.box (Qn 0)),Qa (Qv 2) (Qd (Qo (Qp (Qq D.nilF))))]
def f77_c0:MC:=.r0 f77_r0
def f77_r1:List MO:=[Qa (Qv 3) (MOp.mkF (Go.Fn.func 101) [(Qn 1)]),Qa (Qv 2) (Qd (Qn 3))]
def f77_c1:MC:=.r0 f77_r1
def f77_c4:MC:=.seq f77_c0 (.seq f77_c1 .ret)
attribute [go_sem] f77_r0 f77_r1
theorem f77_k : KK QP 77 f77 [] f77_c4 [(RV.t 2)] 4 := by refine ⟨func77,?_,?_,?_,?_⟩<;>kernel_rfl
theorem f77_ok : callable QP 77 = true := by kernel_rfl
theorem f77_tri (h : GT QP gp [(RV.t 2)] pre R 4 f77_c4 args) : Tri QP gp 77 args pre R := f77_k.t h
-- f78: trC none
def f101_r1:List MO:=[Qa (Qv 7) (Qf 1 false (Qn 1)),Qa (Qv 8) (MOp.nck (Qn 7)),Qa (Qv 9) (Qg 0 (Qn 8)),Qa (Qv 10) (Qg 1 (Qn 9)),Qa (Qv 11) (Qf 1 false (Qn 10)),Qa (Qv 12) (Qk Qt (Qn 11)),Qa (Qv 13) (Qd (Qo (Qp (Qq (Qr Qu 0)))))]
def f101_c1:MC:=.r0 f101_r1
def f101_r2:List MO:=[Qa (Qv 14) (Qe Qt Go.BinOp.lss (Qn 13) (Qn 12))]
def f101_c2:MC:=.r0 f101_r2
def f101_r6:List MO:=[Qa (Qv 15) (Qd (Qn 13)),Qa (Qv 16) (Qj 6 (Qn 11) (Qn 13)),Qa (Qv 17) (Qf 6 true (Qn 16)),Qa (Qv 4) (MOp.alloc [(Qr Qu 0),(Qr Qu 0),(Qr Qu 0),(D.str (ByteArray.mk #[])),(D.sl []),(D.sl [])]),Qa (Qv 3) (Qd (Qn 15)),Qa none (Ql 6 (Qn 4) (Qn 17))]
def f101_c6:MC:=.r0 f101_r6
def f101_r7:List MO:=[Qa (Qv 18) (Qg 5 (Qn 4)),Qa (Qv 19) (Qf 1 false (Qn 18)),Qa (Qv 20) (Qk Qt (Qn 19)),Qa (Qv 21) (Qd (Qo (Qp (Qq (Qr Qu 0)))))]
def f101_c7:MC:=.r0 f101_r7
def f101_r8:List MO:=[Qa (Qv 22) (Qe Qt Go.BinOp.lss (Qn 21) (Qn 20))]
def f101_c8:MC:=.r0 f101_r8
def f101_r12:List MO:=[Qa (Qv 23) (Qj 1 (Qn 19) (Qn 21)),Qa (Qv 24) (Qf 1 false (Qn 23)),Qa (Qv 6) (Qd (Qn 24))]
def f101_c12:MC:=.r0 f101_r12
def f101_r13:List MO:=[Qa (Qv 25) (Qd (Qn 0)),Qa (Qv 26) (Qd (Qn 3)),Qa (Qv 27) (Qd (Qn 6)),Qa (Qv 28) (MOp.build [(Qr Qu 0),(Qr Qu 0)] [(0,(1,(Qn 26))),(1,(1,(Qn 27)))]),Qa (Qv 29) (MOp.callv (Qn 25) [(Qn 28)]),Qa (Qv 30) (MOp.not (Qn 29))]
def f101_c13:MC:=.r0 f101_r13
def f101_r20:List MO:=[Qa (Qv 31) (Qe Qt Go.BinOp.add (Qn 21) (Qo (Qp (Qq (Qr Qu 1))))),Qa (Qv 21) (Qd (Qn 31))]
def f101_c20:MC:=.r0 f101_r20
def f101_c23:MC:=.seq f101_c8 (.seq (.cond (Qn 22) .skip (MC.exit 2)) (.seq (.blk 3 (.seq f101_c12 (.seq f101_c13 (.cond (Qn 30) (MC.exit 0) .skip)))) f101_c20))
def f101_r29:List MO:=[Qa (Qv 32) (Qe Qt Go.BinOp.add (Qn 13) (Qo (Qp (Qq (Qr Qu 1))))),Qa (Qv 13) (Qd (Qn 32))]
def f101_c29:MC:=.r0 f101_r29
def f101_c30:MC:=.seq (.blk 1 (.seq f101_c6 (.seq f101_c7 (.blk 2 (.loop f101_c23))))) f101_c29
def f101_c37:MC:=.scope (.seq .skip (.seq f101_c1 (.blk 0 (.loop (.seq f101_c2 (.seq (.cond (Qn 14) .skip (MC.exit 0)) f101_c30))))))
attribute [go_sem] f101_r1 f101_r2 f101_r6 f101_r7 f101_r8 f101_r12 f101_r13 f101_r20 f101_r29
theorem f101_k : KK QP 101 f101 [] f101_c37 [] 33 := by refine ⟨func101,?_,?_,?_,?_⟩<;>kernel_rfl
theorem f101_ok : callable QP 101 = true := by kernel_rfl
theorem f101_tri (h : GT QP gp [] pre R 33 f101_c37 args) : Tri QP gp 101 args pre R := f101_k.t h
end Go.Fw.L07
