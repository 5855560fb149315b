/- Small codes. -/
import Derived.Test.YtbicdabccidliaaGreatDoorFd
import Derived.Test.YtbicdabccidliaaGreatDoorProg
set_option linter.all false
namespace Go.Fw.L07
open Go Go.Fw
open Go.Proofs.Tryz renaming prog -> QP
open Go.Proofs.Tryz (f118 f119 f36 f39 f66 f67 f75 f95 func118 func119 func36 func39 func66 func67 func75 func95)
open Go.Fw.MO renaming op -> Qa,chk -> Qb,opx -> Qc
open Go.Fw.MOp renaming mv -> Qd,bin -> Qe,load -> Qf,fad -> Qg,call -> Qh,ext -> Qi,iad -> Qj,len -> Qk,store -> Ql,pick -> Qm
open Go.Fw.Opd renaming t -> Qn,c -> Qo
open Go.Fw.V renaming one -> Qp
open Go.Fw.A renaming d -> Qq
open Go.Fw.D renaming int -> Qr,bool -> Qs
open Go.Fw.Leaf renaming i -> Qt
open Go.IntKind renaming i64 -> Qu
open Option renaming some -> Qv
variable {gp : Heap} {args : List V} {res : V} {pre : List Ch} {R : V -> List Ch -> Prop}
def f36_r0:List MO:=[Qa (Qv 1) (MOp.ibox (Qn 0)),Qa (Qv 2) (Qd (Qo (Qp A.nil))),Qa (Qv 3) (Qd (Qo (Qp (Qq (Qr Qu 0)))))]
def f36_c0:MC:=.r0 f36_r0
def f36_r1:List MO:=[Qa (Qv 7) (Qf 2 true (Qn 1)),Qa (Qv 8) (Qh 37 [(Qn 7)]),Qa (Qv 6) (Qd (Qn 8)),Qa (Qv 9) (Qi (Qn 6) 0),Qa (Qv 10) (Qi (Qn 6) 1),Qa (Qv 4) (Qd (Qn 9)),Qa (Qv 5) (Qd (Qn 10))]
def f36_c1:MC:=.r0 f36_r1
def f36_r2:List MO:=[Qa (Qv 11) (Qd (Qn 5)),Qa (Qv 12) (Qe Qt Go.BinOp.neq (Qn 11) (Qo (Qp (Qq (Qr Qu 0)))))]
def f36_c2:MC:=.r0 f36_r2
def f36_r3:List MO:=[Qa (Qv 13) (Qd (Qn 5)),Qa (Qv 2) (Qd (Qo (Qp A.nil))),Qa (Qv 3) (Qd (Qn 13))]
def f36_c3:MC:=.r0 f36_r3
def f36_r10:List MO:=[Qa (Qv 14) (Qf 2 true (Qn 1)),Qa (Qv 15) (Qh 66 [(Qn 14)]),Qa (Qv 16) (Qh 67 [(Qn 15)]),Qa (Qv 2) (Qd (Qn 16)),Qa (Qv 3) (Qd (Qo (Qp (Qq (Qr Qu 0)))))]
def f36_c10:MC:=.r0 f36_r10
def f36_c13:MC:=.seq (.seq f36_c1 (.seq f36_c2 (.cond (Qn 12) (.seq f36_c3 .ret) .skip))) (.seq f36_c10 .ret)
def f36_c14:MC:=.seq f36_c0 f36_c13
attribute [go_sem] f36_r0 f36_r1 f36_r2 f36_r3
theorem f36_k : KK QP 36 f36 [1] f36_c14 [(RV.t 2),(RV.t 3)] 17 := ⟨func36,by kernel_rfl,by kernel_rfl,by kernel_rfl,by kernel_rfl⟩
theorem f36_ok : callable QP 36 = true := by kernel_rfl
theorem f36_in (h : GI QP gp [(RV.t 2),(RV.t 3)] res 17 f36_c14 args) : Does QP gp 36 args res := f36_k.i f36_ok h
def f39_r0:List MO:=[Qa (Qv 1) (MOp.ibox (Qn 0)),Qa (Qv 2) (MOp.alloc [(Qr Qu 0),(D.sl [])]),Qa (Qv 3) (Qd (Qo (Qp (Qq (Qr Qu 0)))))]
def f39_c0:MC:=.r0 f39_r0
def f39_r1:List MO:=[Qa (Qv 14) (Qf 2 true (Qn 1)),Qa (Qv 15) (Qh 37 [(Qn 14)]),Qa (Qv 13) (Qd (Qn 15)),Qa (Qv 16) (Qi (Qn 13) 0),Qa (Qv 17) (Qi (Qn 13) 1),Qa (Qv 4) (Qd (Qn 16)),Qa (Qv 5) (Qd (Qn 17))]
def f39_c1:MC:=.r0 f39_r1
def f39_r2:List MO:=[Qa (Qv 18) (Qd (Qn 5)),Qa (Qv 19) (Qe Qt Go.BinOp.neq (Qn 18) (Qo (Qp (Qq (Qr Qu 0)))))]
def f39_c2:MC:=.r0 f39_r2
def f39_r3:List MO:=[Qa (Qv 20) (MOp.build [(Qr Qu 0),(D.sl [])] []),Qa (Qv 21) (Qd (Qn 5)),Qa none (Ql 2 (Qn 2) (Qn 20)),Qa (Qv 3) (Qd (Qn 21))]
def f39_c3:MC:=.r0 f39_r3
def f39_r10:List MO:=[Qa (Qv 22) (Qf 2 true (Qn 1)),Qa (Qv 23) (Qh 66 [(Qn 22)]),Qa (Qv 6) (Qd (Qn 23))]
def f39_c10:MC:=.r0 f39_r10
def f39_r11:List MO:=[Qa (Qv 7) (MOp.alloc [(Qr Qu 0),(D.sl [])])]
def f39_c11:MC:=.r0 f39_r11
def f39_r12:List MO:=[Qa (Qv 24) (Qd (Qn 6)),Qa (Qv 25) (Qh 67 [(Qn 24)]),Qa (Qv 26) (Qk Qt (Qn 25)),Qa (Qv 27) (Qd (Qo (Qp (Qq (Qr Qu 0)))))]
def f39_c12:MC:=.r0 f39_r12
def f39_r13:List MO:=[Qa (Qv 28) (Qe Qt Go.BinOp.lss (Qn 27) (Qn 26))]
def f39_c13:MC:=.r0 f39_r13
def f39_r17:List MO:=[Qa (Qv 29) (Qj 1 (Qn 25) (Qn 27)),Qa (Qv 30) (Qf 1 false (Qn 29)),Qa (Qv 9) (Qd (Qn 30))]
def f39_c17:MC:=.r0 f39_r17
def f39_r18:List MO:=[Qa (Qv 31) (Qg 1 (Qn 1)),Qa (Qv 32) (Qf 1 false (Qn 31)),Qa (Qv 33) (Qd (Qn 9)),Qa (Qv 34) (Qj 6 (Qn 32) (Qn 33)),Qa (Qv 35) (Qg 0 (Qn 34)),Qa (Qv 36) (Qf 1 false (Qn 35)),Qa (Qv 37) (Qg 1 (Qn 1)),Qa (Qv 38) (Qf 1 false (Qn 37)),Qa (Qv 39) (Qd (Qn 9)),Qa (Qv 40) (Qj 6 (Qn 38) (Qn 39)),Qa (Qv 41) (Qg 1 (Qn 40)),Qa (Qv 42) (Qf 3 true (Qn 41)),Qa (Qv 43) (MOp.build [(Qr Qu 0),(Qr Qu 0),(Qr Qu 0),(D.str (ByteArray.mk #[])),(D.sl []),(D.sl [])] [(0,(1,(Qn 36))),(1,(3,(Qn 42)))]),Qa (Qv 10) (MOp.alloc [(Qr Qu 0),(Qr Qu 0),(Qr Qu 0),(D.str (ByteArray.mk #[])),(D.sl []),(D.sl [])]),Qa none (Ql 6 (Qn 10) (Qn 43))]
def f39_c18:MC:=.reg true f39_r18
def f39_r19:List MO:=[Qa (Qv 45) (Qf 2 true (Qn 1)),Qa (Qv 46) (Qd (Qn 9)),Qa (Qv 47) (Qh 74 [(Qn 45),(Qn 46)]),Qa (Qv 44) (Qd (Qn 47)),Qa (Qv 48) (Qi (Qn 44) 0),Qa (Qv 49) (Qi (Qn 44) 1),Qa (Qv 50) (Qg 4 (Qn 10)),Qa none (Ql 1 (Qn 50) (Qn 48))]
def f39_c19:MC:=.r0 f39_r19
def f39_r20:List MO:=[Qa (Qv 52) (Qf 2 true (Qn 1)),Qa (Qv 53) (Qd (Qn 9)),Qa (Qv 54) (Qh 25 [(Qn 52),(Qn 53)]),Qa (Qv 51) (Qd (Qn 54)),Qa (Qv 55) (Qi (Qn 51) 0),Qa (Qv 56) (Qi (Qn 51) 1),Qa (Qv 11) (Qd (Qn 55)),Qa (Qv 12) (Qd (Qn 56))]
def f39_c20:MC:=.r0 f39_r20
def f39_r21:List MO:=[Qa (Qv 57) (Qd (Qn 6)),Qa (Qv 58) (Qd (Qn 11)),Qa (Qv 59) (Qh 75 [(Qn 57),(Qn 58)]),Qa (Qv 60) (Qg 5 (Qn 10)),Qa none (Ql 1 (Qn 60) (Qn 59))]
def f39_c21:MC:=.r0 f39_r21
def f39_r22:List MO:=[Qa (Qv 61) (Qg 1 (Qn 7)),Qa (Qv 62) (Qf 1 false (Qn 61)),Qa (Qv 63) (Qf 6 true (Qn 10)),Qa (Qv 64) (MOp.bslice 6 [(Qr Qu 0),(Qr Qu 0),(Qr Qu 0),(D.str (ByteArray.mk #[])),(D.sl []),(D.sl [])] 1 [(0,(Qn 63))]),Qa (Qv 65) (MOp.app 44 6 88 (Qn 62) (Qn 64)),Qa (Qv 66) (Qg 1 (Qn 7)),Qa none (Ql 1 (Qn 66) (Qn 65))]
def f39_c22:MC:=.r0 f39_r22
def f39_c25:MC:=.seq f39_c19 (.seq f39_c20 (.seq f39_c21 f39_c22))
def f39_r29:List MO:=[Qa (Qv 67) (Qe Qt Go.BinOp.add (Qn 27) (Qo (Qp (Qq (Qr Qu 1))))),Qa (Qv 27) (Qd (Qn 67))]
def f39_c29:MC:=.r0 f39_r29
def f39_c30:MC:=.seq (.blk 1 (.seq f39_c17 (.seq f39_c18 f39_c25))) f39_c29
def f39_r36:List MO:=[Qa (Qv 68) (Qf 2 true (Qn 7)),Qa none (Ql 2 (Qn 2) (Qn 68)),Qa (Qv 3) (Qd (Qo (Qp (Qq (Qr Qu 0)))))]
def f39_c36:MC:=.r0 f39_r36
def f39_c39:MC:=.seq (.seq f39_c12 (.blk 0 (.loop (.seq f39_c13 (.seq (.cond (Qn 28) .skip (MC.exit 0)) f39_c30))))) (.seq f39_c36 .ret)
def f39_c42:MC:=.seq (.seq f39_c1 (.seq f39_c2 (.cond (Qn 19) (.seq f39_c3 .ret) .skip))) (.seq f39_c10 (.seq f39_c11 f39_c39))
def f39_c43:MC:=.seq f39_c0 f39_c42
attribute [go_sem] f39_r0 f39_r1 f39_r2 f39_r3 f39_r11 f39_r12 f39_r13 f39_r17 f39_r18 f39_r19 f39_r20 f39_r21 f39_r22 f39_r29 f39_r36
theorem f39_k : KK QP 39 f39 [1] f39_c43 [(RV.cell 2 2 true),(RV.t 3)] 69 := ⟨func39,by kernel_rfl,by kernel_rfl,by kernel_rfl,by kernel_rfl⟩
theorem f39_ok : callable QP 39 = true := by kernel_rfl
theorem f39_in (h : GI QP gp [(RV.cell 2 2 true),(RV.t 3)] res 69 f39_c43 args) : Does QP gp 39 args res := f39_k.i f39_ok h
def f66_r0:List MO:=[Qa (Qv 1) (MOp.ibox (Qn 0)),Qa (Qv 2) (Qd (Qo (Qp (Qq D.nilP))))]
def f66_c0:MC:=.r0 f66_r0
def f66_r1:List MO:=[Qa (Qv 3) (Qf 2 true (Qn 1)),Qa (Qv 4) MOp.mkM,Qa (Qv 5) (MOp.build [(Qr Qu 0),(D.sl []),(D.raw (Go.Value.map none))] [(0,(2,(Qn 3))),(2,(1,(Qn 4)))]),Qa (Qv 6) (MOp.box (Qn 5)),Qa (Qv 2) (Qd (Qn 6))]
def f66_c1:MC:=.r0 f66_r1
def f66_c4:MC:=.seq f66_c0 (.seq f66_c1 .ret)
attribute [go_sem] f66_r0 f66_r1
theorem f66_k : KK QP 66 f66 [1] f66_c4 [(RV.t 2)] 7 := ⟨func66,by kernel_rfl,by kernel_rfl,by kernel_rfl,by kernel_rfl⟩
theorem f66_ok : callable QP 66 = true := by kernel_rfl
theorem f66_tri (h : GT QP gp [(RV.t 2)] pre R 7 f66_c4 args) : Tri QP gp 66 args pre R := f66_k.t h
def f67_r0:List MO:=[Qa (Qv 2) (Qd (Qo (Qp A.nil)))]
def f67_c0:MC:=.r0 f67_r0
def f67_r1:List MO:=[Qa (Qv 3) (MOp.alloc [(D.sl [])])]
def f67_c1:MC:=.r0 f67_r1
def f67_r2:List MO:=[Qa (Qv 5) (Qd (Qn 0)),Qa (Qv 6) (Qh 95 [(Qn 5)])]
def f67_c2:MC:=.r0 f67_r2
def f67_r3:List MO:=[Qa (Qv 4) (Qd (Qn 7))]
def f67_c3:MC:=.r0 f67_r3
def f67_r4:List MO:=[Qa (Qv 8) (Qf 1 false (Qn 3)),Qa (Qv 9) (Qd (Qn 4)),Qa (Qv 10) (MOp.bslice 1 [(Qr Qu 0)] 1 [(0,(Qn 9))]),Qa (Qv 11) (MOp.app 3 1 8 (Qn 8) (Qn 10)),Qa none (Ql 1 (Qn 3) (Qn 11))]
def f67_c4:MC:=.r0 f67_r4
def f67_c6:MC:=.rf (Qn 6) [7] f67_c3 (.blk 1 f67_c4)
def f67_r9:List MO:=[Qa (Qv 12) (Qf 1 false (Qn 3)),Qa (Qv 2) (Qd (Qn 12))]
def f67_c9:MC:=.r0 f67_r9
def f67_c13:MC:=.seq f67_c1 (.seq (.seq f67_c2 (.blk 0 f67_c6)) (.seq f67_c9 .ret))
def f67_c14:MC:=.seq f67_c0 f67_c13
attribute [go_sem] f67_r0 f67_r1 f67_r2 f67_r3 f67_r4 f67_r9
theorem f67_k : KK QP 67 f67 [] f67_c14 [(RV.t 2)] 13 := ⟨func67,by kernel_rfl,by kernel_rfl,by kernel_rfl,by kernel_rfl⟩
theorem f67_ok : callable QP 67 = true := by kernel_rfl
theorem f67_tri (h : GT QP gp [(RV.t 2)] pre R 13 f67_c14 args) : Tri QP gp 67 args pre R := f67_k.t h
def f75_r0:List MO:=[Qa (Qv 4) (Qd (Qo (Qp A.nil)))]
def f75_c0:MC:=.r0 f75_r0
def f75_r1:List MO:=[Qa (Qv 8) (Qd (Qn 1)),Qa (Qv 9) (Qk Qt (Qn 8)),Qa (Qv 10) (MOp.mkS 1 8 [(Qr Qu 0)] (Qn 9)),Qa (Qv 5) (Qd (Qn 10))]
def f75_c1:MC:=.r0 f75_r1
def f75_r2:List MO:=[Qa (Qv 11) (Qd (Qn 5)),Qa (Qv 12) (Qd (Qn 1)),Qa (Qv 13) (MOp.cpy 1 (Qn 11) (Qn 12))]
def f75_c2:MC:=.r0 f75_r2
def f75_r3:List MO:=[Qa (Qv 14) (Qd (Qn 5)),Qa (Qv 15) (Qk Qt (Qn 14)),Qa (Qv 16) (Qd (Qo (Qp (Qq (Qr Qu 0)))))]
def f75_c3:MC:=.r0 f75_r3
def f75_r4:List MO:=[Qa (Qv 17) (Qe Qt Go.BinOp.lss (Qn 16) (Qn 15))]
def f75_c4:MC:=.r0 f75_r4
def f75_r8:List MO:=[Qa (Qv 18) (Qd (Qn 16)),Qa (Qv 19) (Qj 1 (Qn 14) (Qn 16)),Qa (Qv 20) (Qf 1 false (Qn 19)),Qa (Qv 6) (Qd (Qn 18)),Qa (Qv 7) (Qd (Qn 20))]
def f75_c8:MC:=.r0 f75_r8
def f75_r9:List MO:=[Qa (Qv 21) (Qd (Qn 5)),Qa (Qv 22) (Qd (Qn 6)),Qa (Qv 23) (Qd (Qn 0)),Qa (Qv 24) (MOp.nck (Qn 23)),Qa (Qv 25) (Qg 2 (Qn 24)),Qa (Qv 26) (Qf 1 false (Qn 25)),Qa (Qv 27) (Qd (Qn 7)),Qa (Qv 28) (MOp.lkp false (Qp (Qq (Qr Qu 0))) false [Qt] (Qn 26) (Qn 27)),Qa (Qv 29) (Qj 1 (Qn 21) (Qn 22)),Qa none (Ql 1 (Qn 29) (Qn 28))]
def f75_c9:MC:=.r0 f75_r9
def f75_r12:List MO:=[Qa (Qv 30) (Qe Qt Go.BinOp.add (Qn 16) (Qo (Qp (Qq (Qr Qu 1))))),Qa (Qv 16) (Qd (Qn 30))]
def f75_c12:MC:=.r0 f75_r12
def f75_c15:MC:=.seq f75_c4 (.seq (.cond (Qn 17) .skip (MC.exit 0)) (.seq (.blk 1 (.seq f75_c8 f75_c9)) f75_c12))
def f75_r19:List MO:=[Qa (Qv 31) (Qd (Qn 5)),Qa (Qv 4) (Qd (Qn 31))]
def f75_c19:MC:=.r0 f75_r19
def f75_c23:MC:=.seq f75_c2 (.seq (.seq f75_c3 (.blk 0 (.loop f75_c15))) (.seq f75_c19 .ret))
def f75_c25:MC:=.seq f75_c0 (.seq f75_c1 f75_c23)
attribute [go_sem] f75_r0 f75_r1 f75_r2 f75_r3 f75_r4 f75_r8 f75_r9 f75_r12
theorem f75_k : KK QP 75 f75 [] f75_c25 [(RV.t 4)] 32 := ⟨func75,by kernel_rfl,by kernel_rfl,by kernel_rfl,by kernel_rfl⟩
theorem f75_ok : callable QP 75 = true := by kernel_rfl
theorem f75_tri (h : GT QP gp [(RV.t 4)] pre R 32 f75_c25 args) : Tri QP gp 75 args pre R := f75_k.t h
def f95_r0:List MO:=[Qa (Qv 1) (MOp.box (Qn 0)),Qa (Qv 2) (Qd (Qo (Qp (Qq D.nilF))))]
def f95_c0:MC:=.r0 f95_r0
def f95_r1:List MO:=[Qa (Qv 3) (MOp.mkF (Go.Fn.func 118) [(Qn 1)]),Qa (Qv 2) (Qd (Qn 3))]
def f95_c1:MC:=.r0 f95_r1
def f95_c4:MC:=.seq f95_c0 (.seq f95_c1 .ret)
attribute [go_sem] f95_r0 f95_r1
theorem f95_k : KK QP 95 f95 [] f95_c4 [(RV.t 2)] 4 := ⟨func95,by kernel_rfl,by kernel_rfl,by kernel_rfl,by kernel_rfl⟩
theorem f95_ok : callable QP 95 = true := by kernel_rfl
theorem f95_tri (h : GT QP gp [(RV.t 2)] pre R 4 f95_c4 args) : Tri QP gp 95 args pre R := f95_k.t h
def f118_r0:List MO:=[Qa (Qv 10) (Qf 1 false (Qn 1)),Qa (Qv 11) (MOp.nck (Qn 10)),Qa (Qv 12) (Qg 0 (Qn 11)),Qa (Qv 13) (Qg 0 (Qn 12)),Qa (Qv 14) (Qf 1 false (Qn 13)),Qa (Qv 15) (MOp.bslO 1 [(Qr Qu 0)] 1 [(0,(Qn 14))]),Qa (Qv 3) (MOp.alloc [(D.sl [])]),Qa none (Ql 1 (Qn 3) (Qn 15))]
def f118_c0:MC:=.r0 f118_r0
def f118_r1:List MO:=[Qa (Qv 16) (MOp.mkF (Go.Fn.func 119) [(Qn 3)]),Qa (Qv 4) (Qd (Qn 16))]
def f118_c1:MC:=.r0 f118_r1
def f118_r3:List MO:=[Qa (Qv 17) (Qf 1 false (Qn 3)),Qa (Qv 18) (Qk Qt (Qn 17)),Qa (Qv 19) (Qe Qt Go.BinOp.gtr (Qn 18) (Qo (Qp (Qq (Qr Qu 0)))))]
def f118_c3:MC:=.r0 f118_r3
def f118_r8:List MO:=[Qa (Qv 20) (Qf 1 false (Qn 3)),Qa (Qv 21) (Qf 1 false (Qn 3)),Qa (Qv 22) (Qk Qt (Qn 21)),Qa (Qv 23) (Qe Qt Go.BinOp.sub (Qn 22) (Qo (Qp (Qq (Qr Qu 1))))),Qa (Qv 24) (Qj 1 (Qn 20) (Qn 23)),Qa (Qv 25) (Qf 1 false (Qn 24)),Qa (Qv 5) (Qd (Qn 25))]
def f118_c8:MC:=.r0 f118_r8
def f118_r9:List MO:=[Qa (Qv 26) (Qf 1 false (Qn 3)),Qa (Qv 27) (Qf 1 false (Qn 3)),Qa (Qv 28) (Qk Qt (Qn 27)),Qa (Qv 29) (Qe Qt Go.BinOp.sub (Qn 28) (Qo (Qp (Qq (Qr Qu 1))))),Qa (Qv 30) (MOp.slc 1 (Qn 26) none (Qv (Qn 29))),Qa none (Ql 1 (Qn 3) (Qn 30))]
def f118_c9:MC:=.r0 f118_r9
def f118_r10:List MO:=[Qa (Qv 32) (Qf 1 false (Qn 1)),Qa (Qv 33) (MOp.nck (Qn 32)),Qa (Qv 34) (Qg 2 (Qn 33)),Qa (Qv 35) (Qf 1 false (Qn 34)),Qa (Qv 36) (Qd (Qn 5)),Qa (Qv 37) (MOp.lkp true (Qp (Qq (Qr Qu 0))) false [Qt] (Qn 35) (Qn 36)),Qa (Qv 31) (Qd (Qn 37)),Qa (Qv 38) (Qi (Qn 31) 0),Qa (Qv 39) (Qi (Qn 31) 1),Qa (Qv 6) (Qd (Qn 38)),Qa (Qv 7) (Qd (Qn 39))]
def f118_c10:MC:=.r0 f118_r10
def f118_r11:List MO:=[Qa (Qv 40) (Qd (Qn 7))]
def f118_c11:MC:=.r0 f118_r11
def f118_r17:List MO:=[Qa (Qv 41) (Qf 1 false (Qn 1)),Qa (Qv 42) (MOp.nck (Qn 41)),Qa (Qv 43) (Qg 2 (Qn 42)),Qa (Qv 44) (Qf 1 false (Qn 43)),Qa (Qv 45) (Qd (Qn 5)),Qa (Qv 46) (Qf 1 false (Qn 1)),Qa (Qv 47) (MOp.nck (Qn 46)),Qa (Qv 48) (Qg 2 (Qn 47)),Qa (Qv 49) (Qf 1 false (Qn 48)),Qa (Qv 50) (Qk Leaf.b (Qn 49)),Qa none (MOp.mupd false [Qt] (Qn 44) (Qn 45) (Qn 50))]
def f118_c17:MC:=.reg true f118_r17
def f118_r18:List MO:=[Qa (Qv 51) (Qd (Qn 0)),Qa (Qv 52) (Qd (Qn 5)),Qa (Qv 53) (MOp.callv (Qn 51) [(Qn 52)]),Qa (Qv 54) (MOp.not (Qn 53))]
def f118_c18:MC:=.r0 f118_r18
def f118_r23:List MO:=[Qa (Qv 56) (Qf 1 false (Qn 1)),Qa (Qv 57) (MOp.nck (Qn 56)),Qa (Qv 58) (Qg 0 (Qn 57)),Qa (Qv 59) (Qf 2 true (Qn 58)),Qa (Qv 60) (Qd (Qn 5)),Qa (Qv 61) (Qh 25 [(Qn 59),(Qn 60)]),Qa (Qv 55) (Qd (Qn 61)),Qa (Qv 62) (Qi (Qn 55) 0),Qa (Qv 63) (Qi (Qn 55) 1),Qa (Qv 8) (Qd (Qn 62)),Qa (Qv 9) (Qd (Qn 63))]
def f118_c23:MC:=.r0 f118_r23
def f118_r24:List MO:=[Qa (Qv 64) (Qd (Qn 4)),Qa (Qv 65) (Qd (Qn 8)),Qa (Qv 66) (MOp.callv (Qn 64) [(Qn 65)])]
def f118_c24:MC:=.r0 f118_r24
def f118_c27:MC:=.seq f118_c17 (.seq (.seq f118_c18 (.cond (Qn 54) (MC.exit 0) .skip)) (.seq f118_c23 f118_c24))
def f118_c29:MC:=.seq f118_c9 (.seq (.seq f118_c10 (.seq f118_c11 (.cond (Qn 40) (MC.exit 1) .skip))) f118_c27)
def f118_c36:MC:=.seq f118_c1 (.seq .skip (.blk 0 (.loop (.seq (.seq f118_c3 (.cond (Qn 19) .skip (MC.exit 0))) (.blk 1 (.seq f118_c8 f118_c29))))))
def f118_c38:MC:=.scope (.seq f118_c0 f118_c36)
attribute [go_sem] f118_r0 f118_r1 f118_r3 f118_r8 f118_r9 f118_r10 f118_r11 f118_r17 f118_r18 f118_r23 f118_r24
theorem f118_k : KK QP 118 f118 [15] f118_c38 [] 67 := ⟨func118,by kernel_rfl,by kernel_rfl,by kernel_rfl,by kernel_rfl⟩
theorem f118_ok : callable QP 118 = true := by kernel_rfl
theorem f118_tri (h : GT QP gp [] pre R 67 f118_c38 args) : Tri QP gp 118 args pre R := f118_k.t h
def f119_r0:List MO:=[Qa (Qv 4) (Qd (Qn 0)),Qa (Qv 5) (Qk Qt (Qn 4)),Qa (Qv 6) (Qe Qt Go.BinOp.sub (Qn 5) (Qo (Qp (Qq (Qr Qu 1))))),Qa (Qv 3) (Qd (Qn 6))]
def f119_c0:MC:=.r0 f119_r0
def f119_r1:List MO:=[Qa (Qv 7) (Qd (Qn 3)),Qa (Qv 8) (Qe Qt Go.BinOp.geq (Qn 7) (Qo (Qp (Qq (Qr Qu 0)))))]
def f119_c1:MC:=.r0 f119_r1
def f119_r6:List MO:=[Qa (Qv 11) (Qf 1 false (Qn 1)),Qa (Qv 12) (Qd (Qn 0)),Qa (Qv 13) (Qd (Qn 3)),Qa (Qv 14) (Qj 1 (Qn 12) (Qn 13)),Qa (Qv 15) (Qf 1 false (Qn 14)),Qa (Qv 16) (MOp.bslice 1 [(Qr Qu 0)] 1 [(0,(Qn 15))]),Qa (Qv 17) (MOp.app 3 1 8 (Qn 11) (Qn 16)),Qa none (Ql 1 (Qn 1) (Qn 17))]
def f119_c6:MC:=.reg true f119_r6
def f119_r8:List MO:=[Qa (Qv 9) (Qd (Qn 3)),Qa (Qv 10) (Qe Qt Go.BinOp.sub (Qn 9) (Qo (Qp (Qq (Qr Qu 1))))),Qa (Qv 3) (Qd (Qn 10))]
def f119_c8:MC:=.r0 f119_r8
def f119_c13:MC:=.seq f119_c0 (.blk 0 (.loop (.seq (.seq f119_c1 (.cond (Qn 8) .skip (MC.exit 0))) (.seq (.blk 1 f119_c6) f119_c8))))
attribute [go_sem] f119_r0 f119_r1 f119_r6 f119_r8
theorem f119_k : KK QP 119 f119 [] f119_c13 [] 18 := ⟨func119,by kernel_rfl,by kernel_rfl,by kernel_rfl,by kernel_rfl⟩
theorem f119_ok : callable QP 119 = true := by kernel_rfl
theorem f119_tri (h : GT QP gp [] pre R 18 f119_c13 args) : Tri QP gp 119 args pre R := f119_k.t h
end Go.Fw.L07
