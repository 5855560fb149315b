/- Small codes. -/
import Derived.Test.YtiklocoaghcliaaGreatDoorFd
import Derived.Test.YtiklocoaghcliaaGreatDoorProg
set_option linter.all false
namespace Go.Fw.L07
open Go Go.Fw
open Go.Proofs.Tryz renaming prog -> QP
open Go.Proofs.Tryz (f25 f26 f43 f44 f51 f69 f93 f94 func25 func26 func43 func44 func51 func69 func93 func94)
open Go.Fw.MO renaming op -> Qa,chk -> Qb
open Go.Fw.MOp renaming mv -> Qd,bin -> Qe,load -> Qf,fad -> Qg,call -> Qh,ext -> Qi,iad -> Qj,len -> Qk,store -> Ql,pick -> Qm
open Go.Fw.Opd renaming t -> Qn,c -> Qo
open Go.Fw.V renaming one -> Qp
open Go.Fw.A renaming d -> Qq
open Go.Fw.D renaming int -> Qr,bool -> Qs
open Go.Fw.Leaf renaming i -> Qt
open Go.IntKind renaming i64 -> Qu
open Option renaming some -> Qv
variable {gp : Heap} {args : List V} {res : V} {pre : List Ch} {R : V -> List Ch -> Prop}
def f25_r0:List MO:=[Qa (Qv 1) (MOp.ibox (Qn 0)),Qa (Qv 2) (MOp.alloc [(Qr Qu 0),(D.sl [])]),Qa (Qv 3) (Qd (Qo (Qp (Qq (Qr Qu 0)))))]
def f25_c0:MC:=.r0 f25_r0
def f25_r1:List MO:=[Qa (Qv 14) (Qf 2 true (Qn 1)),Qa (Qv 15) (Qh 19 [(Qn 14)]),Qa (Qv 13) (Qd (Qn 15)),Qa (Qv 16) (Qi (Qn 13) 0),Qa (Qv 17) (Qi (Qn 13) 1),Qa (Qv 4) (Qd (Qn 16)),Qa (Qv 5) (Qd (Qn 17))]
def f25_c1:MC:=.r0 f25_r1
def f25_r2:List MO:=[Qa (Qv 18) (Qd (Qn 5)),Qa (Qv 19) (Qe Qt Go.BinOp.neq (Qn 18) (Qo (Qp (Qq (Qr Qu 0)))))]
def f25_c2:MC:=.r0 f25_r2
def f25_r3:List MO:=[Qa (Qv 20) (MOp.build [(Qr Qu 0),(D.sl [])] []),Qa (Qv 21) (Qd (Qn 5)),Qa none (Ql 2 (Qn 2) (Qn 20)),Qa (Qv 3) (Qd (Qn 21))]
def f25_c3:MC:=.r0 f25_r3
def f25_r10:List MO:=[Qa (Qv 22) (Qf 2 true (Qn 1)),Qa (Qv 23) (Qh 43 [(Qn 22)]),Qa (Qv 6) (Qd (Qn 23))]
def f25_c10:MC:=.r0 f25_r10
def f25_r11:List MO:=[Qa (Qv 7) (MOp.alloc [(Qr Qu 0),(D.sl [])])]
def f25_c11:MC:=.r0 f25_r11
def f25_r12:List MO:=[Qa (Qv 24) (Qd (Qn 6)),Qa (Qv 25) (Qh 44 [(Qn 24)]),Qa (Qv 26) (Qk Qt (Qn 25)),Qa (Qv 27) (Qd (Qo (Qp (Qq (Qr Qu 0)))))]
def f25_c12:MC:=.r0 f25_r12
def f25_r13:List MO:=[Qa (Qv 28) (Qe Qt Go.BinOp.lss (Qn 27) (Qn 26))]
def f25_c13:MC:=.r0 f25_r13
def f25_r17:List MO:=[Qa (Qv 29) (Qj 1 (Qn 25) (Qn 27)),Qa (Qv 30) (Qf 1 false (Qn 29)),Qa (Qv 9) (Qd (Qn 30))]
def f25_c17:MC:=.r0 f25_r17
def f25_r18:List MO:=[Qa (Qv 31) (Qg 1 (Qn 1)),Qa (Qv 32) (Qf 1 false (Qn 31)),Qa (Qv 33) (Qd (Qn 9)),Qa (Qv 34) (Qj 6 (Qn 32) (Qn 33)),Qa (Qv 35) (Qg 0 (Qn 34)),Qa (Qv 36) (Qf 1 false (Qn 35)),Qa (Qv 37) (Qg 1 (Qn 1)),Qa (Qv 38) (Qf 1 false (Qn 37)),Qa (Qv 39) (Qd (Qn 9)),Qa (Qv 40) (Qj 6 (Qn 38) (Qn 39)),Qa (Qv 41) (Qg 1 (Qn 40)),Qa (Qv 42) (Qf 3 true (Qn 41)),Qa (Qv 43) (MOp.build [(Qr Qu 0),(Qr Qu 0),(Qr Qu 0),(D.str (ByteArray.mk #[])),(D.sl []),(D.sl [])] [(0,(1,(Qn 36))),(1,(3,(Qn 42)))]),Qa (Qv 10) (MOp.alloc [(Qr Qu 0),(Qr Qu 0),(Qr Qu 0),(D.str (ByteArray.mk #[])),(D.sl []),(D.sl [])]),Qa none (Ql 6 (Qn 10) (Qn 43))]
def f25_c18:MC:=.reg true f25_r18
def f25_r19:List MO:=[Qa (Qv 45) (Qf 2 true (Qn 1)),Qa (Qv 46) (Qd (Qn 9)),Qa (Qv 47) (Qh 49 [(Qn 45),(Qn 46)]),Qa (Qv 44) (Qd (Qn 47)),Qa (Qv 48) (Qi (Qn 44) 0),Qa (Qv 49) (Qi (Qn 44) 1),Qa (Qv 50) (Qg 4 (Qn 10)),Qa none (Ql 1 (Qn 50) (Qn 48))]
def f25_c19:MC:=.r0 f25_r19
def f25_r20:List MO:=[Qa (Qv 52) (Qf 2 true (Qn 1)),Qa (Qv 53) (Qd (Qn 9)),Qa (Qv 54) (Qh 50 [(Qn 52),(Qn 53)]),Qa (Qv 51) (Qd (Qn 54)),Qa (Qv 55) (Qi (Qn 51) 0),Qa (Qv 56) (Qi (Qn 51) 1),Qa (Qv 11) (Qd (Qn 55)),Qa (Qv 12) (Qd (Qn 56))]
def f25_c20:MC:=.r0 f25_r20
def f25_r21:List MO:=[Qa (Qv 57) (Qd (Qn 6)),Qa (Qv 58) (Qd (Qn 11)),Qa (Qv 59) (Qh 51 [(Qn 57),(Qn 58)]),Qa (Qv 60) (Qg 5 (Qn 10)),Qa none (Ql 1 (Qn 60) (Qn 59))]
def f25_c21:MC:=.r0 f25_r21
def f25_r22:List MO:=[Qa (Qv 61) (Qg 1 (Qn 7)),Qa (Qv 62) (Qf 1 false (Qn 61)),Qa (Qv 63) (Qf 6 true (Qn 10)),Qa (Qv 64) (MOp.bslice 6 [(Qr Qu 0),(Qr Qu 0),(Qr Qu 0),(D.str (ByteArray.mk #[])),(D.sl []),(D.sl [])] 1 [(0,(Qn 63))]),Qa (Qv 65) (MOp.app 40 6 88 (Qn 62) (Qn 64)),Qa (Qv 66) (Qg 1 (Qn 7)),Qa none (Ql 1 (Qn 66) (Qn 65))]
def f25_c22:MC:=.r0 f25_r22
def f25_c25:MC:=.seq f25_c19 (.seq f25_c20 (.seq f25_c21 f25_c22))
def f25_r29:List MO:=[Qa (Qv 67) (Qe Qt Go.BinOp.add (Qn 27) (Qo (Qp (Qq (Qr Qu 1))))),Qa (Qv 27) (Qd (Qn 67))]
def f25_c29:MC:=.r0 f25_r29
def f25_c30:MC:=.seq (.blk 1 (.seq f25_c17 (.seq f25_c18 f25_c25))) f25_c29
def f25_r36:List MO:=[Qa (Qv 68) (Qf 2 true (Qn 7)),Qa none (Ql 2 (Qn 2) (Qn 68)),Qa (Qv 3) (Qd (Qo (Qp (Qq (Qr Qu 0)))))]
def f25_c36:MC:=.r0 f25_r36
def f25_c39:MC:=.seq (.seq f25_c12 (.blk 0 (.loop (.seq f25_c13 (.seq (.cond (Qn 28) .skip (MC.exit 0)) f25_c30))))) (.seq f25_c36 .ret)
def f25_c42:MC:=.seq (.seq f25_c1 (.seq f25_c2 (.cond (Qn 19) (.seq f25_c3 .ret) .skip))) (.seq f25_c10 (.seq f25_c11 f25_c39))
def f25_c43:MC:=.seq f25_c0 f25_c42
attribute [go_sem] f25_r0 f25_r1 f25_r2 f25_r3 f25_r11 f25_r12 f25_r13 f25_r17 f25_r18 f25_r19 f25_r20 f25_r21 f25_r22 f25_r29 f25_r36
theorem f25_k : KK QP 25 f25 [1] f25_c43 [(RV.cell 2 2 true),(RV.t 3)] 69 := by refine ⟨func25,?_,?_,?_,?_⟩<;>kernel_rfl
theorem f25_ok : callable QP 25 = true := by kernel_rfl
theorem f25_in (h : GI QP gp [(RV.cell 2 2 true),(RV.t 3)] res 69 f25_c43 args) : Does QP gp 25 args res := f25_k.i f25_ok h
def f26_r0:List MO:=[Qa (Qv 1) (MOp.ibox (Qn 0)),Qa (Qv 2) (Qd (Qo (Qp (Qq (Qs false)))))]
def f26_c0:MC:=.r0 f26_r0
def f26_r1:List MO:=[Qa (Qv 6) (Qf 2 true (Qn 1)),Qa (Qv 7) (Qh 25 [(Qn 6)]),Qa (Qv 5) (Qd (Qn 7)),Qa (Qv 8) (Qi (Qn 5) 0),Qa (Qv 9) (Qi (Qn 5) 1),Qa (Qv 3) (MOp.alloc [(Qr Qu 0),(D.sl [])]),Qa none (Ql 2 (Qn 3) (Qn 8)),Qa (Qv 4) (Qd (Qn 9))]
def f26_c1:MC:=.r0 f26_r1
def f26_r2:List MO:=[Qa (Qv 10) (Qd (Qn 4)),Qa (Qv 11) (Qe Qt Go.BinOp.eql (Qn 10) (Qo (Qp (Qq (Qr Qu 0))))),Qa (Qv 12) (Qd (Qn 11)),Qb 12 true (Qv 13),Qa (Qv 13) (Qf 2 true (Qn 1)),Qb 12 true (Qv 14),Qa (Qv 14) (Qf 2 true (Qn 3)),Qb 12 true (Qv 15),Qa (Qv 15) (Qh 14 [(Qn 13),(Qn 14)]),Qa (Qv 16) (Qm (Qn 12) (Qn 15) (Qo (Qp (Qq (Qs false))))),Qa (Qv 2) (Qd (Qn 16))]
def f26_c2:MC:=.r0 f26_r2
def f26_c6:MC:=.seq f26_c0 (.seq f26_c1 (.seq f26_c2 .ret))
attribute [go_sem] f26_r0 f26_r1 f26_r2
theorem f26_k : KK QP 26 f26 [1] f26_c6 [(RV.t 2)] 17 := by refine ⟨func26,?_,?_,?_,?_⟩<;>kernel_rfl
theorem f26_ok : callable QP 26 = true := by kernel_rfl
theorem f26_in (h : GI QP gp [(RV.t 2)] res 17 f26_c6 args) : Does QP gp 26 args res := f26_k.i f26_ok h
def f43_r0:List MO:=[Qa (Qv 1) (MOp.ibox (Qn 0)),Qa (Qv 2) (Qd (Qo (Qp (Qq D.nilP))))]
def f43_c0:MC:=.r0 f43_r0
def f43_r1:List MO:=[Qa (Qv 3) (Qf 2 true (Qn 1)),Qa (Qv 4) MOp.mkM,Qa (Qv 5) (MOp.build [(Qr Qu 0),(D.sl []),(D.raw (Go.Value.map none))] [(0,(2,(Qn 3))),(2,(1,(Qn 4)))]),Qa (Qv 6) (MOp.box (Qn 5)),Qa (Qv 2) (Qd (Qn 6))]
def f43_c1:MC:=.r0 f43_r1
def f43_c4:MC:=.seq f43_c0 (.seq f43_c1 .ret)
attribute [go_sem] f43_r0 f43_r1
theorem f43_k : KK QP 43 f43 [1] f43_c4 [(RV.t 2)] 7 := by refine ⟨func43,?_,?_,?_,?_⟩<;>kernel_rfl
theorem f43_ok : callable QP 43 = true := by kernel_rfl
theorem f43_tri (h : GT QP gp [(RV.t 2)] pre R 7 f43_c4 args) : Tri QP gp 43 args pre R := f43_k.t h
def f44_r0:List MO:=[Qa (Qv 2) (Qd (Qo (Qp A.nil)))]
def f44_c0:MC:=.r0 f44_r0
def f44_r1:List MO:=[Qa (Qv 3) (MOp.alloc [(D.sl [])])]
def f44_c1:MC:=.r0 f44_r1
def f44_r2:List MO:=[Qa (Qv 5) (Qd (Qn 0)),Qa (Qv 6) (Qh 69 [(Qn 5)])]
def f44_c2:MC:=.r0 f44_r2
def f44_r3:List MO:=[Qa (Qv 4) (Qd (Qn 7))]
def f44_c3:MC:=.r0 f44_r3
def f44_r4:List MO:=[Qa (Qv 8) (Qf 1 false (Qn 3)),Qa (Qv 9) (Qd (Qn 4)),Qa (Qv 10) (MOp.bslice 1 [(Qr Qu 0)] 1 [(0,(Qn 9))]),Qa (Qv 11) (MOp.app 3 1 8 (Qn 8) (Qn 10)),Qa none (Ql 1 (Qn 3) (Qn 11))]
def f44_c4:MC:=.r0 f44_r4
def f44_c6:MC:=.rf (Qn 6) [7] f44_c3 (.blk 1 f44_c4)
def f44_r9:List MO:=[Qa (Qv 12) (Qf 1 false (Qn 3)),Qa (Qv 2) (Qd (Qn 12))]
def f44_c9:MC:=.r0 f44_r9
def f44_c13:MC:=.seq f44_c1 (.seq (.seq f44_c2 (.blk 0 f44_c6)) (.seq f44_c9 .ret))
def f44_c14:MC:=.seq f44_c0 f44_c13
attribute [go_sem] f44_r0 f44_r1 f44_r2 f44_r3 f44_r4 f44_r9
theorem f44_k : KK QP 44 f44 [] f44_c14 [(RV.t 2)] 13 := by refine ⟨func44,?_,?_,?_,?_⟩<;>kernel_rfl
theorem f44_ok : callable QP 44 = true := by kernel_rfl
theorem f44_tri (h : GT QP gp [(RV.t 2)] pre R 13 f44_c14 args) : Tri QP gp 44 args pre R := f44_k.t h
def f51_r0:List MO:=[Qa (Qv 4) (Qd (Qo (Qp A.nil)))]
def f51_c0:MC:=.r0 f51_r0
def f51_r1:List MO:=[Qa (Qv 8) (Qd (Qn 1)),Qa (Qv 9) (Qk Qt (Qn 8)),Qa (Qv 10) (MOp.mkS 1 8 [(Qr Qu 0)] (Qn 9)),Qa (Qv 5) (Qd (Qn 10))]
def f51_c1:MC:=.r0 f51_r1
def f51_r2:List MO:=[Qa (Qv 11) (Qd (Qn 5)),Qa (Qv 12) (Qd (Qn 1)),Qa (Qv 13) (MOp.cpy 1 (Qn 11) (Qn 12))]
def f51_c2:MC:=.r0 f51_r2
def f51_r3:List MO:=[Qa (Qv 14) (Qd (Qn 5)),Qa (Qv 15) (Qk Qt (Qn 14)),Qa (Qv 16) (Qd (Qo (Qp (Qq (Qr Qu 0)))))]
def f51_c3:MC:=.r0 f51_r3
def f51_r4:List MO:=[Qa (Qv 17) (Qe Qt Go.BinOp.lss (Qn 16) (Qn 15))]
def f51_c4:MC:=.r0 f51_r4
def f51_r8:List MO:=[Qa (Qv 18) (Qd (Qn 16)),Qa (Qv 19) (Qj 1 (Qn 14) (Qn 16)),Qa (Qv 20) (Qf 1 false (Qn 19)),Qa (Qv 6) (Qd (Qn 18)),Qa (Qv 7) (Qd (Qn 20))]
def f51_c8:MC:=.r0 f51_r8
def f51_r9:List MO:=[Qa (Qv 21) (Qd (Qn 5)),Qa (Qv 22) (Qd (Qn 6)),Qa (Qv 23) (Qd (Qn 0)),Qa (Qv 24) (MOp.nck (Qn 23)),Qa (Qv 25) (Qg 2 (Qn 24)),Qa (Qv 26) (Qf 1 false (Qn 25)),Qa (Qv 27) (Qd (Qn 7)),Qa (Qv 28) (MOp.lkp false (Qp (Qq (Qr Qu 0))) false [Qt] (Qn 26) (Qn 27)),Qa (Qv 29) (Qj 1 (Qn 21) (Qn 22)),Qa none (Ql 1 (Qn 29) (Qn 28))]
def f51_c9:MC:=.r0 f51_r9
def f51_r12:List MO:=[Qa (Qv 30) (Qe Qt Go.BinOp.add (Qn 16) (Qo (Qp (Qq (Qr Qu 1))))),Qa (Qv 16) (Qd (Qn 30))]
def f51_c12:MC:=.r0 f51_r12
def f51_c15:MC:=.seq f51_c4 (.seq (.cond (Qn 17) .skip (MC.exit 0)) (.seq (.blk 1 (.seq f51_c8 f51_c9)) f51_c12))
def f51_r19:List MO:=[Qa (Qv 31) (Qd (Qn 5)),Qa (Qv 4) (Qd (Qn 31))]
def f51_c19:MC:=.r0 f51_r19
def f51_c23:MC:=.seq f51_c2 (.seq (.seq f51_c3 (.blk 0 (.loop f51_c15))) (.seq f51_c19 .ret))
def f51_c25:MC:=.seq f51_c0 (.seq f51_c1 f51_c23)
attribute [go_sem] f51_r0 f51_r1 f51_r2 f51_r3 f51_r4 f51_r8 f51_r9 f51_r12
theorem f51_k : KK QP 51 f51 [] f51_c25 [(RV.t 4)] 32 := by refine ⟨func51,?_,?_,?_,?_⟩<;>kernel_rfl
theorem f51_ok : callable QP 51 = true := by kernel_rfl
theorem f51_tri (h : GT QP gp [(RV.t 4)] pre R 32 f51_c25 args) : Tri QP gp 51 args pre R := f51_k.t h
def f69_r0:List MO:=[Qa (Qv 1) (MOp.box (Qn 0)),Qa (Qv 2) (Qd (Qo (Qp (Qq D.nilF))))]
def f69_c0:MC:=.r0 f69_r0
def f69_r1:List MO:=[Qa (Qv 3) (MOp.mkF (Go.Fn.func 93) [(Qn 1)]),Qa (Qv 2) (Qd (Qn 3))]
def f69_c1:MC:=.r0 f69_r1
def f69_c4:MC:=.seq f69_c0 (.seq f69_c1 .ret)
attribute [go_sem] f69_r0 f69_r1
theorem f69_k : KK QP 69 f69 [] f69_c4 [(RV.t 2)] 4 := by refine ⟨func69,?_,?_,?_,?_⟩<;>kernel_rfl
theorem f69_ok : callable QP 69 = true := by kernel_rfl
theorem f69_tri (h : GT QP gp [(RV.t 2)] pre R 4 f69_c4 args) : Tri QP gp 69 args pre R := f69_k.t h
def f93_r0:List MO:=[Qa (Qv 10) (Qf 1 false (Qn 1)),Qa (Qv 11) (MOp.nck (Qn 10)),Qa (Qv 12) (Qg 0 (Qn 11)),Qa (Qv 13) (Qg 0 (Qn 12)),Qa (Qv 14) (Qf 1 false (Qn 13)),Qa (Qv 15) (MOp.bslO 1 [(Qr Qu 0)] 1 [(0,(Qn 14))]),Qa (Qv 3) (MOp.alloc [(D.sl [])]),Qa none (Ql 1 (Qn 3) (Qn 15))]
def f93_c0:MC:=.r0 f93_r0
def f93_r1:List MO:=[Qa (Qv 16) (MOp.mkF (Go.Fn.func 94) [(Qn 3)]),Qa (Qv 4) (Qd (Qn 16))]
def f93_c1:MC:=.r0 f93_r1
def f93_r3:List MO:=[Qa (Qv 17) (Qf 1 false (Qn 3)),Qa (Qv 18) (Qk Qt (Qn 17)),Qa (Qv 19) (Qe Qt Go.BinOp.gtr (Qn 18) (Qo (Qp (Qq (Qr Qu 0)))))]
def f93_c3:MC:=.r0 f93_r3
def f93_r8:List MO:=[Qa (Qv 20) (Qf 1 false (Qn 3)),Qa (Qv 21) (Qf 1 false (Qn 3)),Qa (Qv 22) (Qk Qt (Qn 21)),Qa (Qv 23) (Qe Qt Go.BinOp.sub (Qn 22) (Qo (Qp (Qq (Qr Qu 1))))),Qa (Qv 24) (Qj 1 (Qn 20) (Qn 23)),Qa (Qv 25) (Qf 1 false (Qn 24)),Qa (Qv 5) (Qd (Qn 25))]
def f93_c8:MC:=.r0 f93_r8
def f93_r9:List MO:=[Qa (Qv 26) (Qf 1 false (Qn 3)),Qa (Qv 27) (Qf 1 false (Qn 3)),Qa (Qv 28) (Qk Qt (Qn 27)),Qa (Qv 29) (Qe Qt Go.BinOp.sub (Qn 28) (Qo (Qp (Qq (Qr Qu 1))))),Qa (Qv 30) (MOp.slc 1 (Qn 26) none (Qv (Qn 29))),Qa none (Ql 1 (Qn 3) (Qn 30))]
def f93_c9:MC:=.r0 f93_r9
def f93_r10:List MO:=[Qa (Qv 32) (Qf 1 false (Qn 1)),Qa (Qv 33) (MOp.nck (Qn 32)),Qa (Qv 34) (Qg 2 (Qn 33)),Qa (Qv 35) (Qf 1 false (Qn 34)),Qa (Qv 36) (Qd (Qn 5)),Qa (Qv 37) (MOp.lkp true (Qp (Qq (Qr Qu 0))) false [Qt] (Qn 35) (Qn 36)),Qa (Qv 31) (Qd (Qn 37)),Qa (Qv 38) (Qi (Qn 31) 0),Qa (Qv 39) (Qi (Qn 31) 1),Qa (Qv 6) (Qd (Qn 38)),Qa (Qv 7) (Qd (Qn 39))]
def f93_c10:MC:=.r0 f93_r10
def f93_r11:List MO:=[Qa (Qv 40) (Qd (Qn 7))]
def f93_c11:MC:=.r0 f93_r11
def f93_r17:List MO:=[Qa (Qv 41) (Qf 1 false (Qn 1)),Qa (Qv 42) (MOp.nck (Qn 41)),Qa (Qv 43) (Qg 2 (Qn 42)),Qa (Qv 44) (Qf 1 false (Qn 43)),Qa (Qv 45) (Qd (Qn 5)),Qa (Qv 46) (Qf 1 false (Qn 1)),Qa (Qv 47) (MOp.nck (Qn 46)),Qa (Qv 48) (Qg 2 (Qn 47)),Qa (Qv 49) (Qf 1 false (Qn 48)),Qa (Qv 50) (Qk Leaf.b (Qn 49)),Qa none (MOp.mupd false [Qt] (Qn 44) (Qn 45) (Qn 50))]
def f93_c17:MC:=.reg true f93_r17
def f93_r18:List MO:=[Qa (Qv 51) (Qd (Qn 0)),Qa (Qv 52) (Qd (Qn 5)),Qa (Qv 53) (MOp.callv (Qn 51) [(Qn 52)]),Qa (Qv 54) (MOp.not (Qn 53))]
def f93_c18:MC:=.r0 f93_r18
def f93_r23:List MO:=[Qa (Qv 56) (Qf 1 false (Qn 1)),Qa (Qv 57) (MOp.nck (Qn 56)),Qa (Qv 58) (Qg 0 (Qn 57)),Qa (Qv 59) (Qf 2 true (Qn 58)),Qa (Qv 60) (Qd (Qn 5)),Qa (Qv 61) (Qh 50 [(Qn 59),(Qn 60)]),Qa (Qv 55) (Qd (Qn 61)),Qa (Qv 62) (Qi (Qn 55) 0),Qa (Qv 63) (Qi (Qn 55) 1),Qa (Qv 8) (Qd (Qn 62)),Qa (Qv 9) (Qd (Qn 63))]
def f93_c23:MC:=.r0 f93_r23
def f93_r24:List MO:=[Qa (Qv 64) (Qd (Qn 4)),Qa (Qv 65) (Qd (Qn 8)),Qa (Qv 66) (MOp.callv (Qn 64) [(Qn 65)])]
def f93_c24:MC:=.r0 f93_r24
def f93_c27:MC:=.seq f93_c17 (.seq (.seq f93_c18 (.cond (Qn 54) (MC.exit 0) .skip)) (.seq f93_c23 f93_c24))
def f93_c29:MC:=.seq f93_c9 (.seq (.seq f93_c10 (.seq f93_c11 (.cond (Qn 40) (MC.exit 1) .skip))) f93_c27)
def f93_c36:MC:=.seq f93_c1 (.seq .skip (.blk 0 (.loop (.seq (.seq f93_c3 (.cond (Qn 19) .skip (MC.exit 0))) (.blk 1 (.seq f93_c8 f93_c29))))))
def f93_c38:MC:=.scope (.seq f93_c0 f93_c36)
attribute [go_sem] f93_r0 f93_r1 f93_r3 f93_r8 f93_r9 f93_r10 f93_r11 f93_r17 f93_r18 f93_r23 f93_r24
theorem f93_k : KK QP 93 f93 [15] f93_c38 [] 67 := by refine ⟨func93,?_,?_,?_,?_⟩<;>kernel_rfl
theorem f93_ok : callable QP 93 = true := by kernel_rfl
theorem f93_tri (h : GT QP gp [] pre R 67 f93_c38 args) : Tri QP gp 93 args pre R := f93_k.t h
def f94_r0:List MO:=[Qa (Qv 4) (Qd (Qn 0)),Qa (Qv 5) (Qk Qt (Qn 4)),Qa (Qv 6) (Qe Qt Go.BinOp.sub (Qn 5) (Qo (Qp (Qq (Qr Qu 1))))),Qa (Qv 3) (Qd (Qn 6))]
def f94_c0:MC:=.r0 f94_r0
def f94_r1:List MO:=[Qa (Qv 7) (Qd (Qn 3)),Qa (Qv 8) (Qe Qt Go.BinOp.geq (Qn 7) (Qo (Qp (Qq (Qr Qu 0)))))]
def f94_c1:MC:=.r0 f94_r1
def f94_r6:List MO:=[Qa (Qv 11) (Qf 1 false (Qn 1)),Qa (Qv 12) (Qd (Qn 0)),Qa (Qv 13) (Qd (Qn 3)),Qa (Qv 14) (Qj 1 (Qn 12) (Qn 13)),Qa (Qv 15) (Qf 1 false (Qn 14)),Qa (Qv 16) (MOp.bslice 1 [(Qr Qu 0)] 1 [(0,(Qn 15))]),Qa (Qv 17) (MOp.app 3 1 8 (Qn 11) (Qn 16)),Qa none (Ql 1 (Qn 1) (Qn 17))]
def f94_c6:MC:=.reg true f94_r6
def f94_r8:List MO:=[Qa (Qv 9) (Qd (Qn 3)),Qa (Qv 10) (Qe Qt Go.BinOp.sub (Qn 9) (Qo (Qp (Qq (Qr Qu 1))))),Qa (Qv 3) (Qd (Qn 10))]
def f94_c8:MC:=.r0 f94_r8
def f94_c13:MC:=.seq f94_c0 (.blk 0 (.loop (.seq (.seq f94_c1 (.cond (Qn 8) .skip (MC.exit 0))) (.seq (.blk 1 f94_c6) f94_c8))))
attribute [go_sem] f94_r0 f94_r1 f94_r6 f94_r8
theorem f94_k : KK QP 94 f94 [] f94_c13 [] 18 := by refine ⟨func94,?_,?_,?_,?_⟩<;>kernel_rfl
theorem f94_ok : callable QP 94 = true := by kernel_rfl
theorem f94_tri (h : GT QP gp [] pre R 18 f94_c13 args) : Tri QP gp 94 args pre R := f94_k.t h
end Go.Fw.L07
