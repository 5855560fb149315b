/- Small codes. -/
import Derived.Test.YtbicdabccidliaaGreatDoorFd
import Derived.Test.YtbicdabccidliaaGreatDoorProg
set_option linter.all false
namespace Go.Fw.L07
open Go Go.Fw
open Go.Proofs.Tryz renaming prog -> QP
open Go.Proofs.Tryz (f101 f129 f18 f20 f42 f43 f46 f50 f79 f81 f82 f83 func101 func129 func18 func20 func42 func43 func46 func50 func79 func81 func82 func83)
open Go.Fw.MO renaming op -> Qa,chk -> Qb,opx -> Qc
open Go.Fw.MOp renaming mv -> Qd,bin -> Qe,load -> Qf,fad -> Qg,call -> Qh,ext -> Qi,iad -> Qj,len -> Qk,store -> Ql,pick -> Qm
open Go.Fw.Opd renaming t -> Qn,c -> Qo
open Go.Fw.V renaming one -> Qp
open Go.Fw.A renaming d -> Qq
open Go.Fw.D renaming int -> Qr,bool -> Qs
open Go.Fw.Leaf renaming i -> Qt
open Go.IntKind renaming i64 -> Qu
open Option renaming some -> Qv
variable {gp : Heap} {args : List V} {res : V} {pre : List Ch} {R : V -> List Ch -> Prop}
def f18_r0:List MO:=[Qa (Qv 1) (MOp.ibox (Qn 0)),Qa (Qv 2) (Qd (Qo (Qp A.nil))),Qa (Qv 3) (Qd (Qo (Qp (Qq (Qr Qu 0)))))]
def f18_c0:MC:=.r0 f18_r0
def f18_r1:List MO:=[Qa (Qv 7) (Qf 2 true (Qn 1)),Qa (Qv 8) (Qh 37 [(Qn 7)]),Qa (Qv 6) (Qd (Qn 8)),Qa (Qv 9) (Qi (Qn 6) 0),Qa (Qv 10) (Qi (Qn 6) 1),Qa (Qv 4) (Qd (Qn 9)),Qa (Qv 5) (Qd (Qn 10))]
def f18_c1:MC:=.r0 f18_r1
def f18_r2:List MO:=[Qa (Qv 11) (Qd (Qn 5)),Qa (Qv 12) (Qe Qt Go.BinOp.neq (Qn 11) (Qo (Qp (Qq (Qr Qu 0)))))]
def f18_c2:MC:=.r0 f18_r2
def f18_r3:List MO:=[Qa (Qv 13) (Qd (Qn 5)),Qa (Qv 2) (Qd (Qo (Qp A.nil))),Qa (Qv 3) (Qd (Qn 13))]
def f18_c3:MC:=.r0 f18_r3
def f18_r10:List MO:=[Qa (Qv 14) (Qf 2 true (Qn 1)),Qa (Qv 15) (Qh 42 [(Qn 14)]),Qa (Qv 16) (Qh 43 [(Qn 15)]),Qa (Qv 2) (Qd (Qn 16)),Qa (Qv 3) (Qd (Qo (Qp (Qq (Qr Qu 0)))))]
def f18_c10:MC:=.r0 f18_r10
def f18_c13:MC:=.seq (.seq f18_c1 (.seq f18_c2 (.cond (Qn 12) (.seq f18_c3 .ret) .skip))) (.seq f18_c10 .ret)
def f18_c14:MC:=.seq f18_c0 f18_c13
attribute [go_sem] f18_r0 f18_r1 f18_r2 f18_r3 f18_r10
theorem f18_k : KK QP 18 f18 [1] f18_c14 [(RV.t 2),(RV.t 3)] 17 := ⟨func18,by kernel_rfl,by kernel_rfl,by kernel_rfl,by kernel_rfl⟩
theorem f18_ok : callable QP 18 = true := by kernel_rfl
theorem f18_in (h : GI QP gp [(RV.t 2),(RV.t 3)] res 17 f18_c14 args) : Does QP gp 18 args res := f18_k.i f18_ok h
def f20_r0:List MO:=[Qa (Qv 2) (MOp.ibox (Qn 0)),Qa (Qv 3) (MOp.ibox (Qn 1)),Qa (Qv 4) (Qd (Qo (Qp (Qq (Qs false))))),Qa (Qv 5) (Qd (Qo (Qp (Qq (Qr Qu 0)))))]
def f20_c0:MC:=.r0 f20_r0
def f20_r1:List MO:=[Qa (Qv 11) (Qf 2 true (Qn 2)),Qa (Qv 12) (Qf 2 true (Qn 3)),Qa (Qv 13) (MOp.bslice 2 [(Qr Qu 0),(D.sl [])] 2 [(0,(Qn 11)),(1,(Qn 12))]),Qa (Qv 14) (Qk Qt (Qn 13)),Qa (Qv 15) (Qd (Qo (Qp (Qq (Qr Qu 0)))))]
def f20_c1:MC:=.r0 f20_r1
def f20_r2:List MO:=[Qa (Qv 16) (Qe Qt Go.BinOp.lss (Qn 15) (Qn 14))]
def f20_c2:MC:=.r0 f20_r2
def f20_r6:List MO:=[Qa (Qv 17) (Qj 2 (Qn 13) (Qn 15)),Qa (Qv 18) (Qf 2 true (Qn 17)),Qa (Qv 7) (MOp.alloc [(Qr Qu 0),(D.sl [])]),Qa none (Ql 2 (Qn 7) (Qn 18))]
def f20_c6:MC:=.r0 f20_r6
def f20_r7:List MO:=[Qa (Qv 20) (Qf 2 true (Qn 7)),Qa (Qv 21) (Qh 37 [(Qn 20)]),Qa (Qv 19) (Qd (Qn 21)),Qa (Qv 22) (Qi (Qn 19) 0),Qa (Qv 23) (Qi (Qn 19) 1),Qa (Qv 8) (Qd (Qn 22)),Qa (Qv 9) (Qd (Qn 23))]
def f20_c7:MC:=.r0 f20_r7
def f20_r8:List MO:=[Qa (Qv 24) (Qd (Qn 9)),Qa (Qv 25) (Qe Qt Go.BinOp.neq (Qn 24) (Qo (Qp (Qq (Qr Qu 0)))))]
def f20_c8:MC:=.r0 f20_r8
def f20_r9:List MO:=[Qa (Qv 26) (Qd (Qn 9)),Qa (Qv 4) (Qd (Qo (Qp (Qq (Qs false))))),Qa (Qv 5) (Qd (Qn 26))]
def f20_c9:MC:=.r0 f20_r9
def f20_c16:MC:=.seq f20_c6 (.seq f20_c7 (.seq f20_c8 (.cond (Qn 25) (.seq f20_c9 .ret) .skip)))
def f20_r18:List MO:=[Qa (Qv 27) (Qe Qt Go.BinOp.add (Qn 15) (Qo (Qp (Qq (Qr Qu 1))))),Qa (Qv 15) (Qd (Qn 27))]
def f20_c18:MC:=.r0 f20_r18
def f20_c24:MC:=.seq f20_c1 (.blk 0 (.loop (.seq f20_c2 (.seq (.cond (Qn 16) .skip (MC.exit 0)) (.seq (.blk 1 f20_c16) f20_c18)))))
def f20_r25:List MO:=[Qa (Qv 28) (Qf 2 true (Qn 2)),Qa (Qv 29) (Qf 2 true (Qn 3)),Qa (Qv 30) (Qh 46 [(Qn 28),(Qn 29)]),Qa (Qv 31) (Qh 42 [(Qn 30)]),Qa (Qv 32) (Qh 43 [(Qn 31)]),Qa (Qv 10) (Qd (Qn 32))]
def f20_c25:MC:=.r0 f20_r25
def f20_r26:List MO:=[Qa (Qv 33) (Qd (Qn 10)),Qa (Qv 34) (Qg 0 (Qn 2)),Qa (Qv 35) (Qf 1 false (Qn 34)),Qa (Qv 36) (Qj 1 (Qn 33) (Qn 35)),Qa (Qv 37) (Qf 1 false (Qn 36)),Qa (Qv 38) (Qd (Qn 10)),Qa (Qv 39) (Qg 0 (Qn 3)),Qa (Qv 40) (Qf 1 false (Qn 39)),Qa (Qv 41) (Qg 1 (Qn 2)),Qa (Qv 42) (Qf 1 false (Qn 41)),Qa (Qv 43) (Qk Qt (Qn 42)),Qa (Qv 44) (Qe Qt Go.BinOp.add (Qn 40) (Qn 43)),Qa (Qv 45) (Qj 1 (Qn 38) (Qn 44)),Qa (Qv 46) (Qf 1 false (Qn 45)),Qa (Qv 47) (Qe Qt Go.BinOp.eql (Qn 37) (Qn 46)),Qa (Qv 4) (Qd (Qn 47)),Qa (Qv 5) (Qd (Qo (Qp (Qq (Qr Qu 0)))))]
def f20_c26:MC:=.reg true f20_r26
def f20_c31:MC:=.seq f20_c0 (.seq f20_c24 (.seq f20_c25 (.seq f20_c26 .ret)))
attribute [go_sem] f20_r0 f20_r1 f20_r2 f20_r6 f20_r7 f20_r8 f20_r9 f20_r18 f20_r25 f20_r26
theorem f20_k : KK QP 20 f20 [2,3] f20_c31 [(RV.t 4),(RV.t 5)] 48 := ⟨func20,by kernel_rfl,by kernel_rfl,by kernel_rfl,by kernel_rfl⟩
theorem f20_ok : callable QP 20 = true := by kernel_rfl
theorem f20_in (h : GI QP gp [(RV.t 4),(RV.t 5)] res 48 f20_c31 args) : Does QP gp 20 args res := f20_k.i f20_ok h
def f42_r0:List MO:=[Qa (Qv 1) (MOp.ibox (Qn 0)),Qa (Qv 2) (Qd (Qo (Qp (Qq D.nilP))))]
def f42_c0:MC:=.r0 f42_r0
def f42_r1:List MO:=[Qa (Qv 3) (Qf 2 true (Qn 1)),Qa (Qv 4) (Qg 1 (Qn 1)),Qa (Qv 5) (Qf 1 false (Qn 4)),Qa (Qv 6) (Qk Qt (Qn 5)),Qa (Qv 7) (MOp.mkS 1 8 [(Qr Qu 0)] (Qn 6)),Qa (Qv 8) (MOp.build [(Qr Qu 0),(D.sl []),(D.sl [])] [(0,(2,(Qn 3))),(2,(1,(Qn 7)))]),Qa (Qv 9) (MOp.box (Qn 8)),Qa (Qv 2) (Qd (Qn 9))]
def f42_c1:MC:=.reg true f42_r1
def f42_c4:MC:=.seq f42_c0 (.seq f42_c1 .ret)
attribute [go_sem] f42_r0 f42_r1
theorem f42_k : KK QP 42 f42 [1] f42_c4 [(RV.t 2)] 10 := ⟨func42,by kernel_rfl,by kernel_rfl,by kernel_rfl,by kernel_rfl⟩
theorem f42_ok : callable QP 42 = true := by kernel_rfl
theorem f42_tri (h : GT QP gp [(RV.t 2)] pre R 10 f42_c4 args) : Tri QP gp 42 args pre R := f42_k.t h
def f43_r0:List MO:=[Qa (Qv 2) (Qd (Qo (Qp A.nil)))]
def f43_c0:MC:=.r0 f43_r0
def f43_r1:List MO:=[Qa (Qv 6) (Qd (Qn 0)),Qa (Qv 7) (MOp.mkMv (Go.Fn.func 79) (Qn 6)),Qa (Qv 3) (Qd (Qn 7))]
def f43_c1:MC:=.r0 f43_r1
def f43_r2:List MO:=[Qa (Qv 8) (Qd (Qn 3)),Qa (Qv 9) (MOp.callv (Qn 8) []),Qa (Qv 4) (Qd (Qo (Qp (Qq (Qr Qu 0))))),Qa (Qv 5) (Qd (Qn 9))]
def f43_c2:MC:=.r0 f43_r2
def f43_r3:List MO:=[Qa (Qv 10) (Qd (Qn 5)),Qa (Qv 11) (Qd (Qn 4)),Qa (Qv 12) (Qe Qt Go.BinOp.gtr (Qn 10) (Qn 11))]
def f43_c3:MC:=.r0 f43_r3
def f43_r8:List MO:=[Qa (Qv 13) (Qd (Qn 5)),Qa (Qv 14) (Qd (Qn 3)),Qa (Qv 15) (MOp.callv (Qn 14) []),Qa (Qv 4) (Qd (Qn 13)),Qa (Qv 5) (Qd (Qn 15))]
def f43_c8:MC:=.r0 f43_r8
def f43_r14:List MO:=[Qa (Qv 16) (Qd (Qn 0)),Qa (Qv 17) (MOp.nck (Qn 16)),Qa (Qv 18) (Qg 2 (Qn 17)),Qa (Qv 19) (Qf 1 false (Qn 18)),Qa (Qv 2) (Qd (Qn 19))]
def f43_c14:MC:=.r0 f43_r14
def f43_c17:MC:=.seq (.seq f43_c2 (.blk 0 (.loop (.seq (.seq f43_c3 (.cond (Qn 12) .skip (MC.exit 0))) (.blk 1 f43_c8))))) (.seq f43_c14 .ret)
def f43_c19:MC:=.seq f43_c0 (.seq f43_c1 f43_c17)
attribute [go_sem] f43_r0 f43_r1 f43_r2 f43_r3 f43_r8 f43_r14
theorem f43_k : KK QP 43 f43 [] f43_c19 [(RV.t 2)] 20 := ⟨func43,by kernel_rfl,by kernel_rfl,by kernel_rfl,by kernel_rfl⟩
theorem f43_ok : callable QP 43 = true := by kernel_rfl
theorem f43_tri (h : GT QP gp [(RV.t 2)] pre R 20 f43_c19 args) : Tri QP gp 43 args pre R := f43_k.t h
def f46_r0:List MO:=[Qa (Qv 2) (MOp.ibox (Qn 0)),Qa (Qv 3) (MOp.ibox (Qn 1)),Qa (Qv 4) (MOp.alloc [(Qr Qu 0),(D.sl [])])]
def f46_c0:MC:=.r0 f46_r0
def f46_r1:List MO:=[Qa (Qv 9) (Qg 0 (Qn 2)),Qa (Qv 10) (Qf 1 false (Qn 9)),Qa (Qv 11) (Qg 1 (Qn 2)),Qa (Qv 12) (Qf 1 false (Qn 11)),Qa (Qv 13) (MOp.callN 81 [(Qn 12)]),Qa (Qv 14) (MOp.build [(Qr Qu 0),(D.sl [])] [(0,(1,(Qn 10))),(1,(1,(Qn 13)))]),Qa (Qv 5) (MOp.alloc [(Qr Qu 0),(D.sl [])]),Qa none (Ql 2 (Qn 5) (Qn 14))]
def f46_c1:MC:=.regw f46_r1
def f46_r2:List MO:=[Qa (Qv 15) (Qg 1 (Qn 3)),Qa (Qv 16) (Qf 1 false (Qn 15)),Qa (Qv 17) (Qk Qt (Qn 16)),Qa (Qv 18) (Qd (Qo (Qp (Qq (Qr Qu 0)))))]
def f46_c2:MC:=.r0 f46_r2
def f46_r3:List MO:=[Qa (Qv 19) (Qe Qt Go.BinOp.lss (Qn 18) (Qn 17))]
def f46_c3:MC:=.r0 f46_r3
def f46_r7:List MO:=[Qa (Qv 20) (Qj 6 (Qn 16) (Qn 18)),Qa (Qv 21) (Qf 6 true (Qn 20)),Qa (Qv 7) (MOp.alloc [(Qr Qu 0),(Qr Qu 0),(Qr Qu 0),(D.str (ByteArray.mk #[])),(D.sl []),(D.sl [])]),Qa none (Ql 6 (Qn 7) (Qn 21))]
def f46_c7:MC:=.r0 f46_r7
def f46_r8:List MO:=[Qa (Qv 22) (Qg 5 (Qn 7)),Qa (Qv 23) (Qf 1 false (Qn 22)),Qa (Qv 24) (Qh 49 [(Qn 23)]),Qa (Qv 25) (Qg 5 (Qn 7)),Qa none (Ql 1 (Qn 25) (Qn 24))]
def f46_c8:MC:=.r0 f46_r8
def f46_r9:List MO:=[Qa (Qv 26) (Qg 5 (Qn 7)),Qa (Qv 27) (Qf 1 false (Qn 26)),Qa (Qv 28) (Qk Qt (Qn 27)),Qa (Qv 29) (Qd (Qo (Qp (Qq (Qr Qu 0)))))]
def f46_c9:MC:=.r0 f46_r9
def f46_r10:List MO:=[Qa (Qv 30) (Qe Qt Go.BinOp.lss (Qn 29) (Qn 28))]
def f46_c10:MC:=.r0 f46_r10
def f46_r14:List MO:=[Qa (Qv 31) (Qd (Qn 29)),Qa (Qv 8) (Qd (Qn 31))]
def f46_c14:MC:=.r0 f46_r14
def f46_r15:List MO:=[Qa (Qv 32) (Qg 5 (Qn 7)),Qa (Qv 33) (Qf 1 false (Qn 32)),Qa (Qv 34) (Qd (Qn 8)),Qa (Qv 35) (Qj 1 (Qn 33) (Qn 34)),Qa (Qv 36) (Qf 1 false (Qn 35)),Qa (Qv 37) (Qg 1 (Qn 2)),Qa (Qv 38) (Qf 1 false (Qn 37)),Qa (Qv 39) (Qk Qt (Qn 38)),Qa (Qv 40) (Qe Qt Go.BinOp.add (Qn 36) (Qn 39)),Qa (Qv 41) (Qj 1 (Qn 33) (Qn 34)),Qa none (Ql 1 (Qn 41) (Qn 40))]
def f46_c15:MC:=.reg true f46_r15
def f46_r18:List MO:=[Qa (Qv 42) (Qe Qt Go.BinOp.add (Qn 29) (Qo (Qp (Qq (Qr Qu 1))))),Qa (Qv 29) (Qd (Qn 42))]
def f46_c18:MC:=.r0 f46_r18
def f46_c21:MC:=.seq f46_c10 (.seq (.cond (Qn 30) .skip (MC.exit 2)) (.seq (.blk 3 (.seq f46_c14 f46_c15)) f46_c18))
def f46_r25:List MO:=[Qa (Qv 43) (Qg 1 (Qn 5)),Qa (Qv 44) (Qf 1 false (Qn 43)),Qa (Qv 45) (Qf 6 true (Qn 7)),Qa (Qv 46) (MOp.bslice 6 [(Qr Qu 0),(Qr Qu 0),(Qr Qu 0),(D.str (ByteArray.mk #[])),(D.sl []),(D.sl [])] 1 [(0,(Qn 45))]),Qa (Qv 47) (MOp.app 44 6 88 (Qn 44) (Qn 46)),Qa (Qv 48) (Qg 1 (Qn 5)),Qa none (Ql 1 (Qn 48) (Qn 47))]
def f46_c25:MC:=.r0 f46_r25
def f46_c27:MC:=.seq f46_c8 (.seq (.seq f46_c9 (.blk 2 (.loop f46_c21))) f46_c25)
def f46_r30:List MO:=[Qa (Qv 49) (Qe Qt Go.BinOp.add (Qn 18) (Qo (Qp (Qq (Qr Qu 1))))),Qa (Qv 18) (Qd (Qn 49))]
def f46_c30:MC:=.r0 f46_r30
def f46_c33:MC:=.seq f46_c3 (.seq (.cond (Qn 19) .skip (MC.exit 0)) (.seq (.blk 1 (.seq f46_c7 f46_c27)) f46_c30))
def f46_r37:List MO:=[Qa (Qv 50) (Qf 2 true (Qn 5)),Qa none (Ql 2 (Qn 4) (Qn 50))]
def f46_c37:MC:=.r0 f46_r37
def f46_c41:MC:=.seq f46_c1 (.seq (.seq f46_c2 (.blk 0 (.loop f46_c33))) (.seq f46_c37 .ret))
def f46_c42:MC:=.seq f46_c0 f46_c41
attribute [go_sem] f46_r0 f46_r1 f46_r2 f46_r3 f46_r7 f46_r8 f46_r9 f46_r10 f46_r14 f46_r15 f46_r18 f46_r25 f46_r30 f46_r37
theorem f46_k : KK QP 46 f46 [2,3,3013] f46_c42 [(RV.cell 4 2 true)] 51 := ⟨func46,by kernel_rfl,by kernel_rfl,by kernel_rfl,by kernel_rfl⟩
theorem f46_ok : callable QP 46 = true := by kernel_rfl
theorem f46_in (h : GI QP gp [(RV.cell 4 2 true)] res 51 f46_c42 args) : Does QP gp 46 args res := f46_k.i f46_ok h
def f50_r0:List MO:=[Qa (Qv 4) (MOp.alloc [(Qr Qu 0),(Qr Qu 0),(Qr Qu 0),(D.str (ByteArray.mk #[])),(D.str (ByteArray.mk #[])),(D.str (ByteArray.mk #[]))])]
def f50_c0:MC:=.r0 f50_r0
def f50_r1:List MO:=[Qa (Qv 10) (Qd (Qn 0)),Qa (Qv 11) (MOp.nck (Qn 10)),Qa (Qv 12) (Qg 0 (Qn 11)),Qa (Qv 13) (Qf 2 true (Qn 12)),Qa (Qv 14) (Qd (Qn 1)),Qa (Qv 15) (Qh 25 [(Qn 13),(Qn 14)]),Qa (Qv 9) (Qd (Qn 15)),Qa (Qv 16) (Qi (Qn 9) 0),Qa (Qv 17) (Qi (Qn 9) 1),Qa (Qv 5) (Qd (Qn 16)),Qa (Qv 6) (Qd (Qn 17))]
def f50_c1:MC:=.r0 f50_r1
def f50_r2:List MO:=[Qa (Qv 18) (Qd (Qn 5)),Qa (Qv 19) (Qk Qt (Qn 18)),Qa (Qv 20) (Qd (Qo (Qp (Qq (Qr Qu 0)))))]
def f50_c2:MC:=.r0 f50_r2
def f50_r3:List MO:=[Qa (Qv 21) (Qe Qt Go.BinOp.lss (Qn 20) (Qn 19))]
def f50_c3:MC:=.r0 f50_r3
def f50_r7:List MO:=[Qa (Qv 22) (Qd (Qn 20)),Qa (Qv 23) (Qj 1 (Qn 18) (Qn 20)),Qa (Qv 24) (Qf 1 false (Qn 23)),Qa (Qv 7) (Qd (Qn 22)),Qa (Qv 8) (Qd (Qn 24))]
def f50_c7:MC:=.r0 f50_r7
def f50_r8:List MO:=[Qa (Qv 25) (Qd (Qn 5)),Qa (Qv 26) (Qd (Qn 7)),Qa (Qv 27) (Qd (Qn 0)),Qa (Qv 28) (MOp.nck (Qn 27)),Qa (Qv 29) (Qg 2 (Qn 28)),Qa (Qv 30) (Qf 1 false (Qn 29)),Qa (Qv 31) (Qd (Qn 8)),Qa (Qv 32) (Qj 1 (Qn 30) (Qn 31)),Qa (Qv 33) (Qf 1 false (Qn 32)),Qa (Qv 34) (Qj 1 (Qn 25) (Qn 26)),Qa none (Ql 1 (Qn 34) (Qn 33))]
def f50_c8:MC:=.r0 f50_r8
def f50_r11:List MO:=[Qa (Qv 35) (Qe Qt Go.BinOp.add (Qn 20) (Qo (Qp (Qq (Qr Qu 1))))),Qa (Qv 20) (Qd (Qn 35))]
def f50_c11:MC:=.r0 f50_r11
def f50_c14:MC:=.seq f50_c3 (.seq (.cond (Qn 21) .skip (MC.exit 0)) (.seq (.blk 1 (.seq f50_c7 f50_c8)) f50_c11))
def f50_r18:List MO:=[Qa (Qv 36) (Qd (Qn 0)),Qa (Qv 37) (MOp.nck (Qn 36)),Qa (Qv 38) (Qg 0 (Qn 37)),Qa (Qv 39) (Qg 1 (Qn 38)),Qa (Qv 40) (Qf 1 false (Qn 39)),Qa (Qv 41) (Qd (Qn 1)),Qa (Qv 42) (Qj 6 (Qn 40) (Qn 41)),Qa (Qv 43) (Qg 0 (Qn 42)),Qa (Qv 44) (Qf 1 false (Qn 43)),Qa (Qv 45) (Qd (Qn 0)),Qa (Qv 46) (MOp.nck (Qn 45)),Qa (Qv 47) (Qg 0 (Qn 46)),Qa (Qv 48) (Qg 1 (Qn 47)),Qa (Qv 49) (Qf 1 false (Qn 48)),Qa (Qv 50) (Qd (Qn 1)),Qa (Qv 51) (Qj 6 (Qn 49) (Qn 50)),Qa (Qv 52) (Qg 1 (Qn 51)),Qa (Qv 53) (Qf 3 true (Qn 52)),Qa (Qv 54) (Qd (Qn 0)),Qa (Qv 55) (Qd (Qn 1)),Qa (Qv 56) (Qh 82 [(Qn 54),(Qn 55)]),Qa (Qv 57) (Qd (Qn 5)),Qa (Qv 58) (Qh 83 [(Qn 57)]),Qa (Qv 59) (MOp.build [(Qr Qu 0),(Qr Qu 0),(Qr Qu 0),(D.str (ByteArray.mk #[])),(D.str (ByteArray.mk #[])),(D.str (ByteArray.mk #[]))] [(0,(1,(Qn 44))),(1,(3,(Qn 53))),(4,(1,(Qn 56))),(5,(1,(Qn 58)))]),Qa none (Ql 6 (Qn 4) (Qn 59))]
def f50_c18:MC:=.reg true f50_r18
def f50_c22:MC:=.seq f50_c1 (.seq (.seq f50_c2 (.blk 0 (.loop f50_c14))) (.seq f50_c18 .ret))
def f50_c23:MC:=.seq f50_c0 f50_c22
attribute [go_sem] f50_r0 f50_r1 f50_r2 f50_r3 f50_r7 f50_r8 f50_r11 f50_r18
theorem f50_k : KK QP 50 f50 [] f50_c23 [(RV.cell 4 6 true)] 60 := ⟨func50,by kernel_rfl,by kernel_rfl,by kernel_rfl,by kernel_rfl⟩
theorem f50_ok : callable QP 50 = true := by kernel_rfl
theorem f50_in (h : GI QP gp [(RV.cell 4 6 true)] res 60 f50_c23 args) : Does QP gp 50 args res := f50_k.i f50_ok h
def f79_r0:List MO:=[Qa (Qv 2) (Qd (Qo (Qp (Qq (Qr Qu 0)))))]
def f79_c0:MC:=.r0 f79_r0
def f79_r1:List MO:=[Qa (Qv 9) MOp.mkM,Qa (Qv 3) (MOp.alloc [(D.raw (Go.Value.map none))]),Qa none (Ql 1 (Qn 3) (Qn 9))]
def f79_c1:MC:=.r0 f79_r1
def f79_r2:List MO:=[Qa (Qv 10) (Qd (Qn 0)),Qa (Qv 11) (MOp.nck (Qn 10)),Qa (Qv 12) (Qg 2 (Qn 11)),Qa (Qv 13) (Qf 1 false (Qn 12)),Qa (Qv 14) (Qk Qt (Qn 13)),Qa (Qv 15) (MOp.mkS 1 8 [(Qr Qu 0)] (Qn 14)),Qa (Qv 4) (MOp.alloc [(D.sl [])]),Qa none (Ql 1 (Qn 4) (Qn 15))]
def f79_c2:MC:=.r0 f79_r2
def f79_r3:List MO:=[Qa (Qv 16) (Qd (Qn 0)),Qa (Qv 17) (Qh 101 [(Qn 16)])]
def f79_c3:MC:=.r0 f79_r3
def f79_r4:List MO:=[Qa (Qv 5) (Qd (Qn 18))]
def f79_c4:MC:=.r0 f79_r4
def f79_r5:List MO:=[Qa (Qv 6) (MOp.alloc [(Qr Qu 0),(Qr Qu 0),(Qr Qu 0),(D.str (ByteArray.mk #[])),(D.str (ByteArray.mk #[])),(D.str (ByteArray.mk #[]))]),Qa none (Ql 6 (Qn 6) (Qn 19))]
def f79_c5:MC:=.r0 f79_r5
def f79_r7:List MO:=[Qa (Qv 21) (Qf 1 false (Qn 3)),Qa (Qv 22) (Qf 6 true (Qn 6)),Qa (Qv 23) (MOp.lkp true (Qp (Qq (Qr Qu 0))) true [Qt,Qt,Qt,Leaf.s,Leaf.s,Leaf.s] (Qn 21) (Qn 22)),Qa (Qv 20) (Qd (Qn 23)),Qa (Qv 24) (Qi (Qn 20) 0),Qa (Qv 25) (Qi (Qn 20) 1),Qa (Qv 7) (Qd (Qn 24)),Qa (Qv 8) (Qd (Qn 25))]
def f79_c7:MC:=.r0 f79_r7
def f79_r8:List MO:=[Qa (Qv 26) (Qd (Qn 8)),Qa (Qv 27) (MOp.not (Qn 26))]
def f79_c8:MC:=.r0 f79_r8
def f79_r9:List MO:=[Qa (Qv 28) (Qf 1 false (Qn 3)),Qa (Qv 29) (Qf 6 true (Qn 6)),Qa (Qv 30) (Qf 1 false (Qn 3)),Qa (Qv 31) (Qk Leaf.b (Qn 30)),Qa none (MOp.mupd true [Qt,Qt,Qt,Leaf.s,Leaf.s,Leaf.s] (Qn 28) (Qn 29) (Qn 31))]
def f79_c9:MC:=.r0 f79_r9
def f79_r14:List MO:=[Qa (Qv 32) (Qf 1 false (Qn 4)),Qa (Qv 33) (Qd (Qn 5)),Qa (Qv 34) (Qf 1 false (Qn 3)),Qa (Qv 35) (Qf 6 true (Qn 6)),Qa (Qv 36) (MOp.lkp false (Qp (Qq (Qr Qu 0))) true [Qt,Qt,Qt,Leaf.s,Leaf.s,Leaf.s] (Qn 34) (Qn 35)),Qa (Qv 37) (Qj 1 (Qn 32) (Qn 33)),Qa none (Ql 1 (Qn 37) (Qn 36))]
def f79_c14:MC:=.reg true f79_r14
def f79_c15:MC:=.seq (.seq f79_c7 (.seq f79_c8 (.cond (Qn 27) f79_c9 .skip))) f79_c14
def f79_c17:MC:=.rf (Qn 17) [18,19] (.seq f79_c4 f79_c5) (.blk 1 f79_c15)
def f79_r20:List MO:=[Qa (Qv 38) (Qd (Qn 0)),Qa (Qv 39) (MOp.nck (Qn 38)),Qa (Qv 40) (Qg 2 (Qn 39)),Qa (Qv 41) (Qf 1 false (Qn 40)),Qa (Qv 42) (Qf 1 false (Qn 4)),Qa (Qv 43) (MOp.cpy 1 (Qn 41) (Qn 42))]
def f79_c20:MC:=.reg true f79_r20
def f79_r21:List MO:=[Qa (Qv 44) (Qf 1 false (Qn 3)),Qa (Qv 45) (Qk Leaf.b (Qn 44)),Qa (Qv 2) (Qd (Qn 45))]
def f79_c21:MC:=.r0 f79_r21
def f79_c25:MC:=.seq (.seq f79_c3 (.blk 0 f79_c17)) (.seq f79_c20 (.seq f79_c21 .ret))
def f79_c28:MC:=.seq f79_c0 (.seq f79_c1 (.seq f79_c2 f79_c25))
attribute [go_sem] f79_r0 f79_r1 f79_r2 f79_r3 f79_r4 f79_r5 f79_r7 f79_r8 f79_r9 f79_r14 f79_r20 f79_r21
theorem f79_k : KK QP 79 f79 [] f79_c28 [(RV.t 2)] 46 := ⟨func79,by kernel_rfl,by kernel_rfl,by kernel_rfl,by kernel_rfl⟩
theorem f79_ok : callable QP 79 = true := by kernel_rfl
theorem f79_tri (h : GT QP gp [(RV.t 2)] pre R 46 f79_c28 args) : Tri QP gp 79 args pre R := f79_k.t h
def f81_r0:List MO:=[Qa (Qv 2) (Qd (Qo (Qp A.nil)))]
def f81_c0:MC:=.r0 f81_r0
def f81_r1:List MO:=[Qa (Qv 3) (Qd (Qn 0)),Qa (Qv 4) (MOp.nilq NK.sl false (Qn 3))]
def f81_c1:MC:=.r0 f81_r1
def f81_r2:List MO:=[Qa (Qv 2) (Qd (Qo (Qp A.nil)))]
def f81_c2:MC:=.r0 f81_r2
def f81_r8:List MO:=[Qa (Qv 5) (MOp.bslO 6 [(Qr Qu 0),(Qr Qu 0),(Qr Qu 0),(D.str (ByteArray.mk #[])),(D.sl []),(D.sl [])] 0 []),Qa (Qv 6) (Qd (Qn 0)),Qa (Qv 7) (MOp.app 44 6 88 (Qn 5) (Qn 6)),Qa (Qv 2) (Qd (Qn 7))]
def f81_c8:MC:=.r0 f81_r8
def f81_c12:MC:=.seq f81_c0 (.seq (.seq f81_c1 (.cond (Qn 4) (.seq f81_c2 .ret) .skip)) (.seq f81_c8 .ret))
theorem f81_k : KK QP 81 f81 [5] f81_c12 [(RV.t 2)] 8 := ⟨func81,by kernel_rfl,by kernel_rfl,by kernel_rfl,by kernel_rfl⟩
theorem f81_ok : callable QP 81 = true := by kernel_rfl
theorem f81_tri (h : GT QP gp [(RV.t 2)] pre R 8 f81_c12 args) : Tri QP gp 81 args pre R := f81_k.t h
def f82_r0:List MO:=[Qa (Qv 4) (Qd (Qo (Qp (Qq (D.str (ByteArray.mk #[]))))))]
def f82_c0:MC:=.r0 f82_r0
def f82_r1:List MO:=[Qa (Qv 13) (Qd (Qn 0)),Qa (Qv 14) (MOp.nck (Qn 13)),Qa (Qv 15) (Qg 0 (Qn 14)),Qa (Qv 16) (Qf 2 true (Qn 15)),Qa (Qv 17) (Qd (Qn 1)),Qa (Qv 18) (Qh 74 [(Qn 16),(Qn 17)]),Qa (Qv 12) (Qd (Qn 18)),Qa (Qv 19) (Qi (Qn 12) 0),Qa (Qv 20) (Qi (Qn 12) 1),Qa (Qv 5) (Qd (Qn 19)),Qa (Qv 6) (Qd (Qn 20))]
def f82_c1:MC:=.r0 f82_r1
def f82_r2:List MO:=[Qa (Qv 7) (MOp.bldN 170 5)]
def f82_c2:MC:=.r0 f82_r2
def f82_r3:List MO:=[Qa (Qv 21) (Qd (Qn 5)),Qa (Qv 22) (Qk Qt (Qn 21)),Qa (Qv 23) (Qd (Qo (Qp (Qq (Qr Qu 0)))))]
def f82_c3:MC:=.r0 f82_r3
def f82_r4:List MO:=[Qa (Qv 24) (Qe Qt Go.BinOp.lss (Qn 23) (Qn 22))]
def f82_c4:MC:=.r0 f82_r4
def f82_r8:List MO:=[Qa (Qv 25) (Qj 3 (Qn 21) (Qn 23)),Qa (Qv 26) (Qf 3 true (Qn 25)),Qa (Qv 9) (MOp.alloc [(Qr Qu 0),(Qr Qu 0),(D.str (ByteArray.mk #[]))]),Qa none (Ql 3 (Qn 9) (Qn 26))]
def f82_c8:MC:=.r0 f82_r8
def f82_r9:List MO:=[Qa (Qv 28) (Qf 3 true (Qn 9)),Qa (Qv 29) (Qh 104 [(Qn 28)]),Qa (Qv 27) (Qd (Qn 29)),Qa (Qv 30) (Qi (Qn 27) 0),Qa (Qv 31) (Qi (Qn 27) 1),Qa (Qv 10) (Qd (Qn 30)),Qa (Qv 11) (Qd (Qn 31))]
def f82_c9:MC:=.r0 f82_r9
def f82_r10:List MO:=[Qa (Qv 32) (Qd (Qn 10)),Qa (Qv 33) (Qe Leaf.s Go.BinOp.add (Qn 32) (Qo (Qp (Qq (D.str (ByteArray.mk #[44])))))),Qa (Qv 34) (Qh 105 [(Qn 7),(Qn 33)])]
def f82_c10:MC:=.r0 f82_r10
def f82_r14:List MO:=[Qa (Qv 35) (Qe Qt Go.BinOp.add (Qn 23) (Qo (Qp (Qq (Qr Qu 1))))),Qa (Qv 23) (Qd (Qn 35))]
def f82_c14:MC:=.r0 f82_r14
def f82_c15:MC:=.seq (.blk 1 (.seq f82_c8 (.seq f82_c9 f82_c10))) f82_c14
def f82_r21:List MO:=[Qa (Qv 36) (Qh 106 [(Qn 7)]),Qa (Qv 4) (Qd (Qn 36))]
def f82_c21:MC:=.r0 f82_r21
def f82_c24:MC:=.seq (.seq f82_c3 (.blk 0 (.loop (.seq f82_c4 (.seq (.cond (Qn 24) .skip (MC.exit 0)) f82_c15))))) (.seq f82_c21 .ret)
def f82_c27:MC:=.seq f82_c0 (.seq f82_c1 (.seq f82_c2 f82_c24))
attribute [go_sem] f82_r0 f82_r1 f82_r2 f82_r3 f82_r4 f82_r8 f82_r9 f82_r10 f82_r14 f82_r21
theorem f82_k : KK QP 82 f82 [] f82_c27 [(RV.t 4)] 37 := ⟨func82,by kernel_rfl,by kernel_rfl,by kernel_rfl,by kernel_rfl⟩
theorem f82_ok : callable QP 82 = true := by kernel_rfl
theorem f82_in (h : GI QP gp [(RV.t 4)] res 37 f82_c27 args) : Does QP gp 82 args res := f82_k.i f82_ok h
def f83_r0:List MO:=[Qa (Qv 2) (Qd (Qo (Qp (Qq (D.str (ByteArray.mk #[]))))))]
def f83_c0:MC:=.r0 f83_r0
def f83_r1:List MO:=[Qa (Qv 3) (MOp.bldN 170 5)]
def f83_c1:MC:=.r0 f83_r1
def f83_r2:List MO:=[Qa (Qv 6) (Qd (Qn 0)),Qa (Qv 7) (Qk Qt (Qn 6)),Qa (Qv 8) (Qd (Qo (Qp (Qq (Qr Qu 0)))))]
def f83_c2:MC:=.r0 f83_r2
def f83_r3:List MO:=[Qa (Qv 9) (Qe Qt Go.BinOp.lss (Qn 8) (Qn 7))]
def f83_c3:MC:=.r0 f83_r3
def f83_r7:List MO:=[Qa (Qv 10) (Qj 1 (Qn 6) (Qn 8)),Qa (Qv 11) (Qf 1 false (Qn 10)),Qa (Qv 5) (Qd (Qn 11))]
def f83_c7:MC:=.r0 f83_r7
def f83_r8:List MO:=[Qa (Qv 12) (Qd (Qn 5)),Qa (Qv 13) (Qh 107 [(Qn 12)]),Qa (Qv 14) (Qe Leaf.s Go.BinOp.add (Qn 13) (Qo (Qp (Qq (D.str (ByteArray.mk #[44])))))),Qa (Qv 15) (Qh 105 [(Qn 3),(Qn 14)])]
def f83_c8:MC:=.r0 f83_r8
def f83_r11:List MO:=[Qa (Qv 16) (Qe Qt Go.BinOp.add (Qn 8) (Qo (Qp (Qq (Qr Qu 1))))),Qa (Qv 8) (Qd (Qn 16))]
def f83_c11:MC:=.r0 f83_r11
def f83_c14:MC:=.seq f83_c3 (.seq (.cond (Qn 9) .skip (MC.exit 0)) (.seq (.blk 1 (.seq f83_c7 f83_c8)) f83_c11))
def f83_r18:List MO:=[Qa (Qv 17) (Qh 106 [(Qn 3)]),Qa (Qv 2) (Qd (Qn 17))]
def f83_c18:MC:=.r0 f83_r18
def f83_c22:MC:=.seq f83_c1 (.seq (.seq f83_c2 (.blk 0 (.loop f83_c14))) (.seq f83_c18 .ret))
def f83_c23:MC:=.seq f83_c0 f83_c22
attribute [go_sem] f83_r0 f83_r1 f83_r2 f83_r3 f83_r7 f83_r8 f83_r11 f83_r18
theorem f83_k : KK QP 83 f83 [] f83_c23 [(RV.t 2)] 18 := ⟨func83,by kernel_rfl,by kernel_rfl,by kernel_rfl,by kernel_rfl⟩
theorem f83_ok : callable QP 83 = true := by kernel_rfl
theorem f83_in (h : GI QP gp [(RV.t 2)] res 18 f83_c23 args) : Does QP gp 83 args res := f83_k.i f83_ok h
def f101_r0:List MO:=[Qa (Qv 1) (MOp.box (Qn 0)),Qa (Qv 2) (Qd (Qo (Qp (Qq D.nilF))))]
def f101_c0:MC:=.r0 f101_r0
def f101_r1:List MO:=[Qa (Qv 3) (MOp.mkF (Go.Fn.func 129) [(Qn 1)]),Qa (Qv 2) (Qd (Qn 3))]
def f101_c1:MC:=.r0 f101_r1
def f101_c4:MC:=.seq f101_c0 (.seq f101_c1 .ret)
attribute [go_sem] f101_r0 f101_r1
theorem f101_k : KK QP 101 f101 [] f101_c4 [(RV.t 2)] 4 := ⟨func101,by kernel_rfl,by kernel_rfl,by kernel_rfl,by kernel_rfl⟩
theorem f101_ok : callable QP 101 = true := by kernel_rfl
theorem f101_tri (h : GT QP gp [(RV.t 2)] pre R 4 f101_c4 args) : Tri QP gp 101 args pre R := f101_k.t h
def f129_r1:List MO:=[Qa (Qv 4) (Qf 1 false (Qn 1)),Qa (Qv 5) (MOp.nck (Qn 4)),Qa (Qv 6) (Qg 0 (Qn 5)),Qa (Qv 7) (Qg 1 (Qn 6)),Qa (Qv 8) (Qf 1 false (Qn 7)),Qa (Qv 9) (Qk Qt (Qn 8)),Qa (Qv 10) (Qd (Qo (Qp (Qq (Qr Qu 0)))))]
def f129_c1:MC:=.r0 f129_r1
def f129_r2:List MO:=[Qa (Qv 11) (Qe Qt Go.BinOp.lss (Qn 10) (Qn 9))]
def f129_c2:MC:=.r0 f129_r2
def f129_r6:List MO:=[Qa (Qv 12) (Qd (Qn 10)),Qa (Qv 3) (Qd (Qn 12))]
def f129_c6:MC:=.r0 f129_r6
def f129_r7:List MO:=[Qa (Qv 13) (Qd (Qn 0)),Qa (Qv 14) (Qd (Qn 3)),Qa (Qv 15) (Qf 1 false (Qn 1)),Qa (Qv 16) (Qd (Qn 3)),Qa (Qv 17) (Qh 50 [(Qn 15),(Qn 16)]),Qa (Qv 18) (MOp.callv (Qn 13) [(Qn 14),(Qn 17)]),Qa (Qv 19) (MOp.not (Qn 18))]
def f129_c7:MC:=.r0 f129_r7
def f129_r14:List MO:=[Qa (Qv 20) (Qe Qt Go.BinOp.add (Qn 10) (Qo (Qp (Qq (Qr Qu 1))))),Qa (Qv 10) (Qd (Qn 20))]
def f129_c14:MC:=.r0 f129_r14
def f129_c17:MC:=.seq f129_c2 (.seq (.cond (Qn 11) .skip (MC.exit 0)) (.seq (.blk 1 (.seq f129_c6 (.seq f129_c7 (.cond (Qn 19) (MC.exit 0) .skip)))) f129_c14))
def f129_c22:MC:=.scope (.seq .skip (.seq f129_c1 (.blk 0 (.loop f129_c17))))
attribute [go_sem] f129_r1 f129_r2 f129_r6 f129_r7 f129_r14
theorem f129_k : KK QP 129 f129 [] f129_c22 [] 21 := ⟨func129,by kernel_rfl,by kernel_rfl,by kernel_rfl,by kernel_rfl⟩
theorem f129_ok : callable QP 129 = true := by kernel_rfl
theorem f129_tri (h : GT QP gp [] pre R 21 f129_c22 args) : Tri QP gp 129 args pre R := f129_k.t h
end Go.Fw.L07
