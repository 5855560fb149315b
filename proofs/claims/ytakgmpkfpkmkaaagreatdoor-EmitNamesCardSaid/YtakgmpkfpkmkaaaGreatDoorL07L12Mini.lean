/- Small codes. -/
import Derived.Test.YtakgmpkfpkmkaaaGreatDoorFd
import Derived.Test.YtakgmpkfpkmkaaaGreatDoorProg
set_option linter.all false
namespace Go.Fw.L07
open Go Go.Fw
open Go.Proofs.Tryz renaming prog -> QP
open Go.Proofs.Tryz (f117 f118 f119 f149 f55 f77 f78 f79 f80 f81 func117 func118 func119 func149 func55 func77 func78 func79 func80 func81)
open Go.Fw.MO renaming op -> Qa,opx -> Qc
open Go.Fw.MOp renaming mv -> Qd,bin -> Qe,load -> Qf,fad -> Qg,call -> Qh,ext -> Qi,iad -> Qj,len -> Qk,store -> Ql
open Go.Fw.Opd renaming t -> Qn,c -> Qo
open Go.Fw.V renaming one -> Qp
open Go.Fw.A renaming d -> Qq
open Go.Fw.D renaming int -> Qr,bool -> Qs
open Go.Fw.Leaf renaming i -> Qt
open Go.IntKind renaming i64 -> Qu
open Option renaming some -> Qv
variable {gp : Heap} {args : List V} {res : V} {pre : List Ch} {R : V -> List Ch -> Prop}
def f55_r0:List MO:=[Qa (Qv 1) (MOp.ibox (Qn 0)),Qa (Qv 2) (Qd (Qo (Qp A.nil))),Qa (Qv 3) (Qd (Qo (Qp (Qq (Qr Qu 0)))))]
def f55_c0:MC:=.r0 f55_r0
def f55_r1:List MO:=[Qa (Qv 12) (Qf 2 true (Qn 1)),Qa (Qv 13) (Qh 78 [(Qn 12)]),Qa (Qv 11) (Qd (Qn 13)),Qa (Qv 14) (Qi (Qn 11) 0),Qa (Qv 15) (Qi (Qn 11) 1),Qa (Qv 4) (Qd (Qn 14)),Qa (Qv 5) (Qd (Qn 15))]
def f55_c1:MC:=.r0 f55_r1
def f55_r2:List MO:=[Qa (Qv 16) (Qd (Qn 5)),Qa (Qv 17) (Qe Qt Go.BinOp.neq (Qn 16) (Qo (Qp (Qq (Qr Qu 0)))))]
def f55_c2:MC:=.r0 f55_r2
def f55_r3:List MO:=[Qa (Qv 18) (Qd (Qn 5)),Qa (Qv 2) (Qd (Qo (Qp A.nil))),Qa (Qv 3) (Qd (Qn 18))]
def f55_c3:MC:=.r0 f55_r3
def f55_r9:List MO:=[Qa (Qv 19) (Qd (Qn 4)),Qa (Qv 20) (MOp.mkMv (Go.Fn.func 79) (Qn 19)),Qa (Qv 6) (Qd (Qn 20))]
def f55_c9:MC:=.r0 f55_r9
def f55_r10:List MO:=[Qa (Qv 21) MOp.mkM,Qa (Qv 7) (Qd (Qn 21))]
def f55_c10:MC:=.r0 f55_r10
def f55_r11:List MO:=[Qa (Qv 8) (Qd (Qo (Qp A.nil)))]
def f55_c11:MC:=.r0 f55_r11
def f55_r12:List MO:=[Qa (Qv 22) (Qd (Qn 4)),Qa (Qv 23) (Qh 80 [(Qn 22)]),Qa (Qv 24) (Qk Qt (Qn 23)),Qa (Qv 25) (Qd (Qo (Qp (Qq (Qr Qu 0)))))]
def f55_c12:MC:=.r0 f55_r12
def f55_r13:List MO:=[Qa (Qv 26) (Qe Qt Go.BinOp.lss (Qn 25) (Qn 24))]
def f55_c13:MC:=.r0 f55_r13
def f55_r17:List MO:=[Qa (Qv 27) (Qd (Qn 25)),Qa (Qv 28) (Qj 1 (Qn 23) (Qn 25)),Qa (Qv 29) (Qf 1 false (Qn 28)),Qa (Qv 9) (Qd (Qn 27)),Qa (Qv 10) (Qd (Qn 29))]
def f55_c17:MC:=.r0 f55_r17
def f55_r18:List MO:=[Qa (Qv 30) (Qd (Qn 6)),Qa (Qv 31) (Qd (Qn 9)),Qa (Qv 32) (Qd (Qn 10)),Qa (Qv 33) (MOp.callv (Qn 30) [(Qn 31),(Qn 32)])]
def f55_c18:MC:=.r0 f55_r18
def f55_r19:List MO:=[Qa (Qv 34) (Qd (Qn 7)),Qa (Qv 35) (Qd (Qn 9)),Qa none (MOp.mupd false [Qt] (Qn 34) (Qn 35) (Qo (Qp (Qq (Qs true)))))]
def f55_c19:MC:=.r0 f55_r19
def f55_r20:List MO:=[Qa (Qv 36) (Qd (Qn 8)),Qa (Qv 37) (Qd (Qn 7)),Qa (Qv 38) (Qk Leaf.b (Qn 37)),Qa (Qv 39) (MOp.bslice 1 [(Qr Qu 0)] 1 [(0,(Qn 38))]),Qa (Qv 40) (MOp.app 3 1 8 (Qn 36) (Qn 39)),Qa (Qv 8) (Qd (Qn 40))]
def f55_c20:MC:=.r0 f55_r20
def f55_r27:List MO:=[Qa (Qv 41) (Qd (Qn 8)),Qa (Qv 42) (MOp.bslice 1 [(Qr Qu 0)] 1 [(0,(Qo (Qp (Qq (Qr Qu 0)))))]),Qa (Qv 43) (MOp.app 3 1 8 (Qn 41) (Qn 42)),Qa (Qv 8) (Qd (Qn 43))]
def f55_c27:MC:=.r0 f55_r27
def f55_c28:MC:=.seq (.seq f55_c18 (.cond (Qn 33) (.seq f55_c19 (.seq f55_c20 (MC.exit 1))) .skip)) f55_c27
def f55_r31:List MO:=[Qa (Qv 44) (Qe Qt Go.BinOp.add (Qn 25) (Qo (Qp (Qq (Qr Qu 1))))),Qa (Qv 25) (Qd (Qn 44))]
def f55_c31:MC:=.r0 f55_r31
def f55_c34:MC:=.seq f55_c13 (.seq (.cond (Qn 26) .skip (MC.exit 0)) (.seq (.blk 1 (.seq f55_c17 f55_c28)) f55_c31))
def f55_r38:List MO:=[Qa (Qv 45) (Qd (Qn 8)),Qa (Qv 2) (Qd (Qn 45)),Qa (Qv 3) (Qd (Qo (Qp (Qq (Qr Qu 0)))))]
def f55_c38:MC:=.r0 f55_r38
def f55_c42:MC:=.seq f55_c11 (.seq (.seq f55_c12 (.blk 0 (.loop f55_c34))) (.seq f55_c38 .ret))
def f55_c45:MC:=.seq (.seq f55_c2 (.cond (Qn 17) (.seq f55_c3 .ret) .skip)) (.seq f55_c9 (.seq f55_c10 f55_c42))
def f55_c47:MC:=.seq f55_c0 (.seq f55_c1 f55_c45)
attribute [go_sem] f55_r0 f55_r2 f55_r3 f55_r9 f55_r10 f55_r11 f55_r12 f55_r13 f55_r17 f55_r18 f55_r19 f55_r20 f55_r27 f55_r31 f55_r38
theorem f55_k : KK QP 55 f55 [1] f55_c47 [(RV.t 2),(RV.t 3)] 46 := by refine ⟨func55,?_,?_,?_,?_⟩<;>kernel_rfl
theorem f55_ok : callable QP 55 = true := by kernel_rfl
theorem f55_in (h : GI QP gp [(RV.t 2),(RV.t 3)] res 46 f55_c47 args) : Does QP gp 55 args res := f55_k.i f55_ok h
def f77_r0:List MO:=[Qa (Qv 1) (MOp.ibox (Qn 0)),Qa (Qv 2) (Qd (Qo (Qp A.nil))),Qa (Qv 3) (Qd (Qo (Qp (Qq (Qr Qu 0)))))]
def f77_c0:MC:=.r0 f77_r0
def f77_r1:List MO:=[Qa (Qv 8) (Qf 2 true (Qn 1)),Qa (Qv 9) (Qh 78 [(Qn 8)]),Qa (Qv 7) (Qd (Qn 9)),Qa (Qv 10) (Qi (Qn 7) 0),Qa (Qv 11) (Qi (Qn 7) 1),Qa (Qv 4) (MOp.alloc [D.nilP]),Qa none (Ql 1 (Qn 4) (Qn 10)),Qa (Qv 5) (Qd (Qn 11))]
def f77_c1:MC:=.r0 f77_r1
def f77_r2:List MO:=[Qa (Qv 12) (Qd (Qn 5)),Qa (Qv 13) (Qe Qt Go.BinOp.neq (Qn 12) (Qo (Qp (Qq (Qr Qu 0)))))]
def f77_c2:MC:=.r0 f77_r2
def f77_r3:List MO:=[Qa (Qv 14) (Qd (Qn 5)),Qa (Qv 2) (Qd (Qo (Qp A.nil))),Qa (Qv 3) (Qd (Qn 14))]
def f77_c3:MC:=.r0 f77_r3
def f77_r9:List MO:=[Qa (Qv 6) (MOp.alloc [D.nilF])]
def f77_c9:MC:=.r0 f77_r9
def f77_r10:List MO:=[Qa (Qv 15) (MOp.mkF (Go.Fn.func 117) [(Qn 4),(Qn 6)]),Qa none (Ql 1 (Qn 6) (Qn 15))]
def f77_c10:MC:=.r0 f77_r10
def f77_r11:List MO:=[Qa (Qv 16) (Qf 1 false (Qn 6)),Qa (Qv 17) (Qf 1 false (Qn 4)),Qa (Qv 18) (MOp.nck (Qn 17)),Qa (Qv 19) (Qg 0 (Qn 18)),Qa (Qv 20) (Qg 0 (Qn 19)),Qa (Qv 21) (Qf 1 false (Qn 20)),Qc (Qv 22) (MOp.callv (Qn 16) [(Qn 21),(Qo (Qp (Qq (Qr Qu 1))))])]
def f77_c11:MC:=.reg true f77_r11
def f77_r12:List MO:=[Qa (Qv 23) (Qf 1 false (Qn 4)),Qa (Qv 24) (MOp.nck (Qn 23)),Qa (Qv 25) (Qg 2 (Qn 24)),Qa (Qv 26) (Qf 1 false (Qn 25)),Qa (Qv 2) (Qd (Qn 26)),Qa (Qv 3) (Qd (Qo (Qp (Qq (Qr Qu 0)))))]
def f77_c12:MC:=.r0 f77_r12
def f77_c17:MC:=.seq f77_c9 (.seq f77_c10 (.seq f77_c11 (.seq f77_c12 .ret)))
def f77_c19:MC:=.seq f77_c1 (.seq (.seq f77_c2 (.cond (Qn 13) (.seq f77_c3 .ret) .skip)) f77_c17)
def f77_c20:MC:=.seq f77_c0 f77_c19
attribute [go_sem] f77_r0 f77_r2 f77_r3 f77_r9 f77_r10 f77_r11
theorem f77_k : KK QP 77 f77 [1] f77_c20 [(RV.t 2),(RV.t 3)] 27 := by refine ⟨func77,?_,?_,?_,?_⟩<;>kernel_rfl
theorem f77_ok : callable QP 77 = true := by kernel_rfl
theorem f77_in (h : GI QP gp [(RV.t 2),(RV.t 3)] res 27 f77_c20 args) : Does QP gp 77 args res := f77_k.i f77_ok h
def f78_r0:List MO:=[Qa (Qv 1) (MOp.ibox (Qn 0)),Qa (Qv 2) (Qd (Qo (Qp (Qq D.nilP)))),Qa (Qv 3) (Qd (Qo (Qp (Qq (Qr Qu 0)))))]
def f78_c0:MC:=.r0 f78_r0
def f78_r1:List MO:=[Qa (Qv 4) (Qf 2 true (Qn 1)),Qa (Qv 5) (Qh 53 [(Qn 4)]),Qa (Qv 6) (MOp.not (Qn 5))]
def f78_c1:MC:=.r0 f78_r1
def f78_r2:List MO:=[Qa (Qv 2) (Qd (Qo (Qp (Qq D.nilP)))),Qa (Qv 3) (Qd (Qo (Qp (Qq (Qr Qu 72)))))]
def f78_c2:MC:=.r0 f78_r2
def f78_r8:List MO:=[Qa (Qv 7) (Qf 2 true (Qn 1)),Qa (Qv 8) (Qg 1 (Qn 1)),Qa (Qv 9) (Qf 1 false (Qn 8)),Qa (Qv 10) (Qk Qt (Qn 9)),Qa (Qv 11) (MOp.mkS 1 8 [(Qr Qu 0)] (Qn 10)),Qa (Qv 12) (MOp.build [(Qr Qu 0),(D.sl []),(D.sl [])] [(0,(2,(Qn 7))),(2,(1,(Qn 11)))]),Qa (Qv 13) (MOp.box (Qn 12)),Qa (Qv 2) (Qd (Qn 13)),Qa (Qv 3) (Qd (Qo (Qp (Qq (Qr Qu 0)))))]
def f78_c8:MC:=.reg true f78_r8
def f78_c12:MC:=.seq f78_c0 (.seq (.seq f78_c1 (.cond (Qn 6) (.seq f78_c2 .ret) .skip)) (.seq f78_c8 .ret))
attribute [go_sem] f78_r0 f78_r1 f78_r2 f78_r8
theorem f78_k : KK QP 78 f78 [1] f78_c12 [(RV.t 2),(RV.t 3)] 14 := by refine ⟨func78,?_,?_,?_,?_⟩<;>kernel_rfl
theorem f78_ok : callable QP 78 = true := by kernel_rfl
theorem f78_tri (h : GT QP gp [(RV.t 2),(RV.t 3)] pre R 14 f78_c12 args) : Tri QP gp 78 args pre R := f78_k.t h
def f79_r0:List MO:=[Qa (Qv 6) (Qd (Qo (Qp (Qq (Qs false)))))]
def f79_c0:MC:=.r0 f79_r0
def f79_r1:List MO:=[Qa (Qv 8) (Qd (Qn 0)),Qa (Qv 9) (MOp.nck (Qn 8)),Qa (Qv 10) (Qg 0 (Qn 9)),Qa (Qv 11) (Qg 1 (Qn 10)),Qa (Qv 12) (Qf 1 false (Qn 11)),Qa (Qv 13) (Qd (Qn 1)),Qa (Qv 14) (Qj 6 (Qn 12) (Qn 13)),Qa (Qv 15) (Qf 6 true (Qn 14)),Qa (Qv 7) (MOp.alloc [(Qr Qu 0),(Qr Qu 0),(Qr Qu 0),(D.str (ByteArray.mk #[])),(D.sl []),(D.sl [])]),Qa none (Ql 6 (Qn 7) (Qn 15))]
def f79_c1:MC:=.r0 f79_r1
def f79_r2:List MO:=[Qa (Qv 17) (Qh 118 []),Qa (Qv 18) (Qg 0 (Qn 7)),Qa (Qv 19) (Qf 1 false (Qn 18)),Qa (Qv 20) (MOp.idxA 3 (Qn 17) (Qn 19)),Qa (Qv 21) (MOp.not (Qn 20)),Qa (Qv 16) (Qd (Qn 21))]
def f79_c2:MC:=.reg true f79_r2
def f79_r7:List MO:=[Qa (Qv 23) (Qg 5 (Qn 7)),Qa (Qv 24) (Qf 1 false (Qn 23)),Qa (Qv 25) (Qk Qt (Qn 24)),Qa (Qv 26) (Qe Qt Go.BinOp.eql (Qn 25) (Qo (Qp (Qq (Qr Qu 0))))),Qa (Qv 22) (Qd (Qn 26))]
def f79_c7:MC:=.r0 f79_r7
def f79_r17:List MO:=[Qa (Qv 6) (Qd (Qo (Qp (Qq (Qs false)))))]
def f79_c17:MC:=.r0 f79_r17
def f79_c24:MC:=.seq f79_c1 (.blk 0 (.seq (.blk 2 (.blk 1 (.seq (.seq (.seq f79_c2 (.cond (Qn 16) (MC.exit 1) .skip)) (.seq f79_c7 (.cond (Qn 22) (MC.exit 2) .skip))) (MC.exit 0)))) (.seq (.seq f79_c17 .ret) (MC.exit 0))))
def f79_r25:List MO:=[Qa (Qv 27) (Qd (Qn 2)),Qa (Qv 28) (Qe Qt Go.BinOp.gtr (Qn 27) (Qo (Qp (Qq (Qr Qu 1))))),Qa (Qv 6) (Qd (Qn 28))]
def f79_c25:MC:=.r0 f79_r25
def f79_c29:MC:=.seq f79_c0 (.seq f79_c24 (.seq f79_c25 .ret))
attribute [go_sem] f79_r0 f79_r1 f79_r2 f79_r7 f79_r17 f79_r25
theorem f79_k : KK QP 79 f79 [] f79_c29 [(RV.t 6)] 29 := by refine ⟨func79,?_,?_,?_,?_⟩<;>kernel_rfl
theorem f79_ok : callable QP 79 = true := by kernel_rfl
theorem f79_tri (h : GT QP gp [(RV.t 6)] pre R 29 f79_c29 args) : Tri QP gp 79 args pre R := f79_k.t h
def f80_r0:List MO:=[Qa (Qv 1) (MOp.box (Qn 0)),Qa (Qv 2) (Qd (Qo (Qp A.nil)))]
def f80_c0:MC:=.r0 f80_r0
def f80_r1:List MO:=[Qa (Qv 4) (Qf 1 false (Qn 1)),Qa (Qv 5) (MOp.nck (Qn 4)),Qa (Qv 6) (Qg 2 (Qn 5)),Qa (Qv 7) (Qf 1 false (Qn 6)),Qa (Qv 8) (Qj 1 (Qn 7) (Qo (Qp (Qq (Qr Qu 0))))),Qa (Qv 9) (Qf 1 false (Qn 8)),Qa (Qv 10) (Qe Qt Go.BinOp.add (Qn 9) (Qo (Qp (Qq (Qr Qu 1))))),Qa (Qv 11) (Qj 1 (Qn 7) (Qo (Qp (Qq (Qr Qu 0))))),Qa none (Ql 1 (Qn 11) (Qn 10))]
def f80_c1:MC:=.r0 f80_r1
def f80_r2:List MO:=[Qa (Qv 12) (Qf 1 false (Qn 1)),Qa (Qv 13) (Qh 119 [(Qn 12)])]
def f80_c2:MC:=.r0 f80_r2
def f80_r3:List MO:=[Qa (Qv 3) (MOp.alloc [(Qr Qu 0),(Qr Qu 0)]),Qa none (Ql 2 (Qn 3) (Qn 14))]
def f80_c3:MC:=.r0 f80_r3
def f80_r4:List MO:=[Qa (Qv 15) (Qf 1 false (Qn 1)),Qa (Qv 16) (MOp.nck (Qn 15)),Qa (Qv 17) (Qg 2 (Qn 16)),Qa (Qv 18) (Qf 1 false (Qn 17)),Qa (Qv 19) (Qg 1 (Qn 3)),Qa (Qv 20) (Qf 1 false (Qn 19)),Qa (Qv 21) (Qj 1 (Qn 18) (Qn 20)),Qa (Qv 22) (Qf 1 false (Qn 21)),Qa (Qv 23) (Qe Qt Go.BinOp.add (Qn 22) (Qo (Qp (Qq (Qr Qu 1))))),Qa (Qv 24) (Qj 1 (Qn 18) (Qn 20)),Qa none (Ql 1 (Qn 24) (Qn 23))]
def f80_c4:MC:=.reg true f80_r4
def f80_c6:MC:=.rf (Qn 13) [14] f80_c3 (.blk 1 f80_c4)
def f80_r9:List MO:=[Qa (Qv 25) (Qf 1 false (Qn 1)),Qa (Qv 26) (MOp.nck (Qn 25)),Qa (Qv 27) (Qg 2 (Qn 26)),Qa (Qv 28) (Qf 1 false (Qn 27)),Qa (Qv 2) (Qd (Qn 28))]
def f80_c9:MC:=.r0 f80_r9
def f80_c13:MC:=.seq f80_c1 (.seq (.seq f80_c2 (.blk 0 f80_c6)) (.seq f80_c9 .ret))
def f80_c14:MC:=.seq f80_c0 f80_c13
attribute [go_sem] f80_r0 f80_r1 f80_r2 f80_r3 f80_r4 f80_r9
theorem f80_k : KK QP 80 f80 [] f80_c14 [(RV.t 2)] 29 := by refine ⟨func80,?_,?_,?_,?_⟩<;>kernel_rfl
theorem f80_ok : callable QP 80 = true := by kernel_rfl
theorem f80_tri (h : GT QP gp [(RV.t 2)] pre R 29 f80_c14 args) : Tri QP gp 80 args pre R := f80_k.t h
def f81_r0:List MO:=[Qa (Qv 1) (MOp.ibox (Qn 0)),Qa (Qv 2) (Qd (Qo (Qp A.nil))),Qa (Qv 3) (Qd (Qo (Qp (Qq (Qr Qu 0)))))]
def f81_c0:MC:=.r0 f81_r0
def f81_r1:List MO:=[Qa (Qv 7) (Qf 2 true (Qn 1)),Qa (Qv 8) (Qh 78 [(Qn 7)]),Qa (Qv 6) (Qd (Qn 8)),Qa (Qv 9) (Qi (Qn 6) 0),Qa (Qv 10) (Qi (Qn 6) 1),Qa (Qv 4) (Qd (Qn 9)),Qa (Qv 5) (Qd (Qn 10))]
def f81_c1:MC:=.r0 f81_r1
def f81_r2:List MO:=[Qa (Qv 11) (Qd (Qn 5)),Qa (Qv 12) (Qe Qt Go.BinOp.neq (Qn 11) (Qo (Qp (Qq (Qr Qu 0)))))]
def f81_c2:MC:=.r0 f81_r2
def f81_r3:List MO:=[Qa (Qv 13) (Qd (Qn 5)),Qa (Qv 2) (Qd (Qo (Qp A.nil))),Qa (Qv 3) (Qd (Qn 13))]
def f81_c3:MC:=.r0 f81_r3
def f81_r9:List MO:=[Qa (Qv 14) (Qd (Qn 4)),Qa (Qv 15) (Qh 80 [(Qn 14)]),Qa (Qv 2) (Qd (Qn 15)),Qa (Qv 3) (Qd (Qo (Qp (Qq (Qr Qu 0)))))]
def f81_c9:MC:=.r0 f81_r9
def f81_c13:MC:=.seq f81_c1 (.seq (.seq f81_c2 (.cond (Qn 12) (.seq f81_c3 .ret) .skip)) (.seq f81_c9 .ret))
def f81_c14:MC:=.seq f81_c0 f81_c13
attribute [go_sem] f81_r0 f81_r2 f81_r3 f81_r9
theorem f81_k : KK QP 81 f81 [1] f81_c14 [(RV.t 2),(RV.t 3)] 16 := by refine ⟨func81,?_,?_,?_,?_⟩<;>kernel_rfl
theorem f81_ok : callable QP 81 = true := by kernel_rfl
theorem f81_in (h : GI QP gp [(RV.t 2),(RV.t 3)] res 16 f81_c14 args) : Does QP gp 81 args res := f81_k.i f81_ok h
def f117_r0:List MO:=[Qa (Qv 8) (Qf 1 false (Qn 2)),Qa (Qv 9) (MOp.nck (Qn 8)),Qa (Qv 10) (Qg 2 (Qn 9)),Qa (Qv 11) (Qf 1 false (Qn 10)),Qa (Qv 12) (Qd (Qn 0)),Qa (Qv 13) (Qj 1 (Qn 11) (Qn 12)),Qa (Qv 14) (Qf 1 false (Qn 13)),Qa (Qv 15) (Qe Qt Go.BinOp.gtr (Qn 14) (Qo (Qp (Qq (Qr Qu 0)))))]
def f117_c0:MC:=.r0 f117_r0
def f117_r5:List MO:=[Qa (Qv 16) (Qf 1 false (Qn 2)),Qa (Qv 17) (MOp.nck (Qn 16)),Qa (Qv 18) (Qg 2 (Qn 17)),Qa (Qv 19) (Qf 1 false (Qn 18)),Qa (Qv 20) (Qd (Qn 0)),Qa (Qv 21) (Qd (Qn 1)),Qa (Qv 22) (Qj 1 (Qn 19) (Qn 20)),Qa none (Ql 1 (Qn 22) (Qn 21))]
def f117_c5:MC:=.r0 f117_r5
def f117_r6:List MO:=[Qa (Qv 23) (Qf 1 false (Qn 2)),Qa (Qv 24) (MOp.nck (Qn 23)),Qa (Qv 25) (Qg 0 (Qn 24)),Qa (Qv 26) (Qg 1 (Qn 25)),Qa (Qv 27) (Qf 1 false (Qn 26)),Qa (Qv 28) (Qd (Qn 0)),Qa (Qv 29) (Qj 6 (Qn 27) (Qn 28)),Qa (Qv 30) (Qg 5 (Qn 29)),Qa (Qv 31) (Qf 1 false (Qn 30)),Qa (Qv 32) (Qk Qt (Qn 31)),Qa (Qv 33) (Qd (Qo (Qp (Qq (Qr Qu 0)))))]
def f117_c6:MC:=.r0 f117_r6
def f117_r7:List MO:=[Qa (Qv 34) (Qe Qt Go.BinOp.lss (Qn 33) (Qn 32))]
def f117_c7:MC:=.r0 f117_r7
def f117_r11:List MO:=[Qa (Qv 35) (Qj 1 (Qn 31) (Qn 33)),Qa (Qv 36) (Qf 1 false (Qn 35)),Qa (Qv 7) (Qd (Qn 36))]
def f117_c11:MC:=.r0 f117_r11
def f117_r12:List MO:=[Qa (Qv 37) (Qf 1 false (Qn 3)),Qa (Qv 38) (Qd (Qn 7)),Qa (Qv 39) (Qd (Qn 1)),Qa (Qv 40) (Qe Qt Go.BinOp.add (Qn 39) (Qo (Qp (Qq (Qr Qu 1))))),Qa (Qv 41) (MOp.callv (Qn 37) [(Qn 38),(Qn 40)])]
def f117_c12:MC:=.r0 f117_r12
def f117_r15:List MO:=[Qa (Qv 42) (Qe Qt Go.BinOp.add (Qn 33) (Qo (Qp (Qq (Qr Qu 1))))),Qa (Qv 33) (Qd (Qn 42))]
def f117_c15:MC:=.r0 f117_r15
def f117_c18:MC:=.seq f117_c7 (.seq (.cond (Qn 34) .skip (MC.exit 0)) (.seq (.blk 1 (.seq f117_c11 f117_c12)) f117_c15))
def f117_c23:MC:=.seq (.seq f117_c0 (.cond (Qn 15) .ret .skip)) (.seq f117_c5 (.seq f117_c6 (.blk 0 (.loop f117_c18))))
attribute [go_sem] f117_r0 f117_r5 f117_r6 f117_r7 f117_r11 f117_r12 f117_r15
theorem f117_k : KK QP 117 f117 [] f117_c23 [] 43 := by refine ⟨func117,?_,?_,?_,?_⟩<;>kernel_rfl
theorem f117_ok : callable QP 117 = true := by kernel_rfl
theorem f117_tri (h : GT QP gp [] pre R 43 f117_c23 args) : Tri QP gp 117 args pre R := f117_k.t h
def f118_r0:List MO:=[Qa (Qv 0) (MOp.alloc [(Qs false),(Qs false),(Qs false)])]
def f118_c0:MC:=.r0 f118_r0
def f118_r1:List MO:=[Qa (Qv 1) (MOp.build [(Qs false),(Qs false),(Qs false)] [(1,(1,(Qo (Qp (Qq (Qs true)))))),(2,(1,(Qo (Qp (Qq (Qs true))))))]),Qa none (Ql 3 (Qn 0) (Qn 1))]
def f118_c1:MC:=.r0 f118_r1
def f118_c4:MC:=.seq f118_c0 (.seq f118_c1 .ret)
attribute [go_sem] f118_r0 f118_r1
theorem f118_k : KK QP 118 f118 [] f118_c4 [(RV.cell 0 3 true)] 2 := by refine ⟨func118,?_,?_,?_,?_⟩<;>kernel_rfl
theorem f118_ok : callable QP 118 = true := by kernel_rfl
theorem f118_in (h : GI QP gp [(RV.cell 0 3 true)] res 2 f118_c4 args) : Does QP gp 118 args res := f118_k.i f118_ok h
def f119_r0:List MO:=[Qa (Qv 1) (MOp.box (Qn 0)),Qa (Qv 2) (Qd (Qo (Qp (Qq D.nilF))))]
def f119_c0:MC:=.r0 f119_r0
def f119_r1:List MO:=[Qa (Qv 3) (MOp.mkF (Go.Fn.func 149) [(Qn 1)]),Qa (Qv 2) (Qd (Qn 3))]
def f119_c1:MC:=.r0 f119_r1
def f119_c4:MC:=.seq f119_c0 (.seq f119_c1 .ret)
attribute [go_sem] f119_r0 f119_r1
theorem f119_k : KK QP 119 f119 [] f119_c4 [(RV.t 2)] 4 := by refine ⟨func119,?_,?_,?_,?_⟩<;>kernel_rfl
theorem f119_ok : callable QP 119 = true := by kernel_rfl
theorem f119_tri (h : GT QP gp [(RV.t 2)] pre R 4 f119_c4 args) : Tri QP gp 119 args pre R := f119_k.t h
def f149_r1:List MO:=[Qa (Qv 7) (Qf 1 false (Qn 1)),Qa (Qv 8) (MOp.nck (Qn 7)),Qa (Qv 9) (Qg 0 (Qn 8)),Qa (Qv 10) (Qg 1 (Qn 9)),Qa (Qv 11) (Qf 1 false (Qn 10)),Qa (Qv 12) (Qk Qt (Qn 11)),Qa (Qv 13) (Qd (Qo (Qp (Qq (Qr Qu 0)))))]
def f149_c1:MC:=.r0 f149_r1
def f149_r2:List MO:=[Qa (Qv 14) (Qe Qt Go.BinOp.lss (Qn 13) (Qn 12))]
def f149_c2:MC:=.r0 f149_r2
def f149_r6:List MO:=[Qa (Qv 15) (Qd (Qn 13)),Qa (Qv 16) (Qj 6 (Qn 11) (Qn 13)),Qa (Qv 17) (Qf 6 true (Qn 16)),Qa (Qv 4) (MOp.alloc [(Qr Qu 0),(Qr Qu 0),(Qr Qu 0),(D.str (ByteArray.mk #[])),(D.sl []),(D.sl [])]),Qa (Qv 3) (Qd (Qn 15)),Qa none (Ql 6 (Qn 4) (Qn 17))]
def f149_c6:MC:=.r0 f149_r6
def f149_r7:List MO:=[Qa (Qv 18) (Qg 5 (Qn 4)),Qa (Qv 19) (Qf 1 false (Qn 18)),Qa (Qv 20) (Qk Qt (Qn 19)),Qa (Qv 21) (Qd (Qo (Qp (Qq (Qr Qu 0)))))]
def f149_c7:MC:=.r0 f149_r7
def f149_r8:List MO:=[Qa (Qv 22) (Qe Qt Go.BinOp.lss (Qn 21) (Qn 20))]
def f149_c8:MC:=.r0 f149_r8
def f149_r12:List MO:=[Qa (Qv 23) (Qj 1 (Qn 19) (Qn 21)),Qa (Qv 24) (Qf 1 false (Qn 23)),Qa (Qv 6) (Qd (Qn 24))]
def f149_c12:MC:=.r0 f149_r12
def f149_r13:List MO:=[Qa (Qv 25) (Qd (Qn 0)),Qa (Qv 26) (Qd (Qn 3)),Qa (Qv 27) (Qd (Qn 6)),Qa (Qv 28) (MOp.build [(Qr Qu 0),(Qr Qu 0)] [(0,(1,(Qn 26))),(1,(1,(Qn 27)))]),Qa (Qv 29) (MOp.callv (Qn 25) [(Qn 28)]),Qa (Qv 30) (MOp.not (Qn 29))]
def f149_c13:MC:=.r0 f149_r13
def f149_r20:List MO:=[Qa (Qv 31) (Qe Qt Go.BinOp.add (Qn 21) (Qo (Qp (Qq (Qr Qu 1))))),Qa (Qv 21) (Qd (Qn 31))]
def f149_c20:MC:=.r0 f149_r20
def f149_c23:MC:=.seq f149_c8 (.seq (.cond (Qn 22) .skip (MC.exit 2)) (.seq (.blk 3 (.seq f149_c12 (.seq f149_c13 (.cond (Qn 30) (MC.exit 0) .skip)))) f149_c20))
def f149_r29:List MO:=[Qa (Qv 32) (Qe Qt Go.BinOp.add (Qn 13) (Qo (Qp (Qq (Qr Qu 1))))),Qa (Qv 13) (Qd (Qn 32))]
def f149_c29:MC:=.r0 f149_r29
def f149_c30:MC:=.seq (.blk 1 (.seq f149_c6 (.seq f149_c7 (.blk 2 (.loop f149_c23))))) f149_c29
def f149_c37:MC:=.scope (.seq .skip (.seq f149_c1 (.blk 0 (.loop (.seq f149_c2 (.seq (.cond (Qn 14) .skip (MC.exit 0)) f149_c30))))))
attribute [go_sem] f149_r1 f149_r2 f149_r6 f149_r7 f149_r8 f149_r12 f149_r13 f149_r20 f149_r29
theorem f149_k : KK QP 149 f149 [] f149_c37 [] 33 := by refine ⟨func149,?_,?_,?_,?_⟩<;>kernel_rfl
theorem f149_ok : callable QP 149 = true := by kernel_rfl
theorem f149_tri (h : GT QP gp [] pre R 33 f149_c37 args) : Tri QP gp 149 args pre R := f149_k.t h
-- f150: trC none
-- f151: trC none
-- f152: trC none
end Go.Fw.L07
