/- Small codes. -/
import Derived.Test.YtejnfjophhnaeaaGreatDoorFd
import Derived.Test.YtejnfjophhnaeaaGreatDoorProg
set_option linter.all false
namespace Go.Fw.L07
open Go Go.Fw
open Go.Proofs.Tryz renaming prog -> QP
open Go.Proofs.Tryz (f114 f115 f32 f33 f62 f63 f65 f91 func114 func115 func32 func33 func62 func63 func65 func91)
open Go.Fw.MO renaming op -> Qa
open Go.Fw.MOp renaming mv -> Qd,bin -> Qe,load -> Qf,fad -> Qg,call -> Qh,ext -> Qi,iad -> Qj,len -> Qk,store -> Ql
open Go.Fw.Opd renaming t -> Qn,c -> Qo
open Go.Fw.V renaming one -> Qp
open Go.Fw.A renaming d -> Qq
open Go.Fw.D renaming int -> Qr
open Go.Fw.Leaf renaming i -> Qt
open Go.IntKind renaming i64 -> Qu
open Option renaming some -> Qv
variable {gp : Heap} {args : List V} {res : V} {pre : List Ch} {R : V -> List Ch -> Prop}
def f32_r0:List MO:=[Qa (Qv 1) (MOp.ibox (Qn 0)),Qa (Qv 2) (Qd (Qo (Qp A.nil))),Qa (Qv 3) (Qd (Qo (Qp (Qq (Qr Qu 0)))))]
def f32_c0:MC:=.r0 f32_r0
def f32_r1:List MO:=[Qa (Qv 7) (Qf 2 true (Qn 1)),Qa (Qv 8) (Qh 36 [(Qn 7)]),Qa (Qv 6) (Qd (Qn 8)),Qa (Qv 9) (Qi (Qn 6) 0),Qa (Qv 10) (Qi (Qn 6) 1),Qa (Qv 4) (Qd (Qn 9)),Qa (Qv 5) (Qd (Qn 10))]
def f32_c1:MC:=.r0 f32_r1
def f32_r2:List MO:=[Qa (Qv 11) (Qd (Qn 5)),Qa (Qv 12) (Qe Qt Go.BinOp.neq (Qn 11) (Qo (Qp (Qq (Qr Qu 0)))))]
def f32_c2:MC:=.r0 f32_r2
def f32_r3:List MO:=[Qa (Qv 13) (Qd (Qn 5)),Qa (Qv 2) (Qd (Qo (Qp A.nil))),Qa (Qv 3) (Qd (Qn 13))]
def f32_c3:MC:=.r0 f32_r3
def f32_r10:List MO:=[Qa (Qv 14) (Qf 2 true (Qn 1)),Qa (Qv 15) (Qh 62 [(Qn 14)]),Qa (Qv 16) (Qh 63 [(Qn 15)]),Qa (Qv 2) (Qd (Qn 16)),Qa (Qv 3) (Qd (Qo (Qp (Qq (Qr Qu 0)))))]
def f32_c10:MC:=.r0 f32_r10
def f32_c13:MC:=.seq (.seq f32_c1 (.seq f32_c2 (.cond (Qn 12) (.seq f32_c3 .ret) .skip))) (.seq f32_c10 .ret)
def f32_c14:MC:=.seq f32_c0 f32_c13
attribute [go_sem] f32_r0 f32_r1 f32_r2 f32_r3
theorem f32_k : KK QP 32 f32 [1] f32_c14 [(RV.t 2),(RV.t 3)] 17 := by refine ⟨func32,?_,?_,?_,?_⟩<;>kernel_rfl
theorem f32_ok : callable QP 32 = true := by kernel_rfl
theorem f32_in (h : GI QP gp [(RV.t 2),(RV.t 3)] res 17 f32_c14 args) : Does QP gp 32 args res := f32_k.i f32_ok h
def f33_r0:List MO:=[Qa (Qv 1) (MOp.ibox (Qn 0)),Qa (Qv 2) (MOp.alloc [(Qr Qu 0),(D.sl [])]),Qa (Qv 3) (Qd (Qo (Qp (Qq (Qr Qu 0)))))]
def f33_c0:MC:=.r0 f33_r0
def f33_r1:List MO:=[Qa (Qv 14) (Qf 2 true (Qn 1)),Qa (Qv 15) (Qh 36 [(Qn 14)]),Qa (Qv 13) (Qd (Qn 15)),Qa (Qv 16) (Qi (Qn 13) 0),Qa (Qv 17) (Qi (Qn 13) 1),Qa (Qv 4) (Qd (Qn 16)),Qa (Qv 5) (Qd (Qn 17))]
def f33_c1:MC:=.r0 f33_r1
def f33_r2:List MO:=[Qa (Qv 18) (Qd (Qn 5)),Qa (Qv 19) (Qe Qt Go.BinOp.neq (Qn 18) (Qo (Qp (Qq (Qr Qu 0)))))]
def f33_c2:MC:=.r0 f33_r2
def f33_r3:List MO:=[Qa (Qv 20) (MOp.build [(Qr Qu 0),(D.sl [])] []),Qa (Qv 21) (Qd (Qn 5)),Qa none (Ql 2 (Qn 2) (Qn 20)),Qa (Qv 3) (Qd (Qn 21))]
def f33_c3:MC:=.r0 f33_r3
def f33_r10:List MO:=[Qa (Qv 22) (Qf 2 true (Qn 1)),Qa (Qv 23) (Qh 62 [(Qn 22)]),Qa (Qv 6) (Qd (Qn 23))]
def f33_c10:MC:=.r0 f33_r10
def f33_r11:List MO:=[Qa (Qv 7) (MOp.alloc [(Qr Qu 0),(D.sl [])])]
def f33_c11:MC:=.r0 f33_r11
def f33_r12:List MO:=[Qa (Qv 24) (Qd (Qn 6)),Qa (Qv 25) (Qh 63 [(Qn 24)]),Qa (Qv 26) (Qk Qt (Qn 25)),Qa (Qv 27) (Qd (Qo (Qp (Qq (Qr Qu 0)))))]
def f33_c12:MC:=.r0 f33_r12
def f33_r13:List MO:=[Qa (Qv 28) (Qe Qt Go.BinOp.lss (Qn 27) (Qn 26))]
def f33_c13:MC:=.r0 f33_r13
def f33_r17:List MO:=[Qa (Qv 29) (Qj 1 (Qn 25) (Qn 27)),Qa (Qv 30) (Qf 1 false (Qn 29)),Qa (Qv 9) (Qd (Qn 30))]
def f33_c17:MC:=.r0 f33_r17
def f33_r18:List MO:=[Qa (Qv 31) (Qg 1 (Qn 1)),Qa (Qv 32) (Qf 1 false (Qn 31)),Qa (Qv 33) (Qd (Qn 9)),Qa (Qv 34) (Qj 6 (Qn 32) (Qn 33)),Qa (Qv 35) (Qg 0 (Qn 34)),Qa (Qv 36) (Qf 1 false (Qn 35)),Qa (Qv 37) (Qg 1 (Qn 1)),Qa (Qv 38) (Qf 1 false (Qn 37)),Qa (Qv 39) (Qd (Qn 9)),Qa (Qv 40) (Qj 6 (Qn 38) (Qn 39)),Qa (Qv 41) (Qg 1 (Qn 40)),Qa (Qv 42) (Qf 3 true (Qn 41)),Qa (Qv 43) (MOp.build [(Qr Qu 0),(Qr Qu 0),(Qr Qu 0),(D.str (ByteArray.mk #[])),(D.sl []),(D.sl [])] [(0,(1,(Qn 36))),(1,(3,(Qn 42)))]),Qa (Qv 10) (MOp.alloc [(Qr Qu 0),(Qr Qu 0),(Qr Qu 0),(D.str (ByteArray.mk #[])),(D.sl []),(D.sl [])]),Qa none (Ql 6 (Qn 10) (Qn 43))]
def f33_c18:MC:=.reg true f33_r18
def f33_r19:List MO:=[Qa (Qv 45) (Qf 2 true (Qn 1)),Qa (Qv 46) (Qd (Qn 9)),Qa (Qv 47) (Qh 64 [(Qn 45),(Qn 46)]),Qa (Qv 44) (Qd (Qn 47)),Qa (Qv 48) (Qi (Qn 44) 0),Qa (Qv 49) (Qi (Qn 44) 1),Qa (Qv 50) (Qg 4 (Qn 10)),Qa none (Ql 1 (Qn 50) (Qn 48))]
def f33_c19:MC:=.r0 f33_r19
def f33_r20:List MO:=[Qa (Qv 52) (Qf 2 true (Qn 1)),Qa (Qv 53) (Qd (Qn 9)),Qa (Qv 54) (Qh 21 [(Qn 52),(Qn 53)]),Qa (Qv 51) (Qd (Qn 54)),Qa (Qv 55) (Qi (Qn 51) 0),Qa (Qv 56) (Qi (Qn 51) 1),Qa (Qv 11) (Qd (Qn 55)),Qa (Qv 12) (Qd (Qn 56))]
def f33_c20:MC:=.r0 f33_r20
def f33_r21:List MO:=[Qa (Qv 57) (Qd (Qn 6)),Qa (Qv 58) (Qd (Qn 11)),Qa (Qv 59) (Qh 65 [(Qn 57),(Qn 58)]),Qa (Qv 60) (Qg 5 (Qn 10)),Qa none (Ql 1 (Qn 60) (Qn 59))]
def f33_c21:MC:=.r0 f33_r21
def f33_r22:List MO:=[Qa (Qv 61) (Qg 1 (Qn 7)),Qa (Qv 62) (Qf 1 false (Qn 61)),Qa (Qv 63) (Qf 6 true (Qn 10)),Qa (Qv 64) (MOp.bslice 6 [(Qr Qu 0),(Qr Qu 0),(Qr Qu 0),(D.str (ByteArray.mk #[])),(D.sl []),(D.sl [])] 1 [(0,(Qn 63))]),Qa (Qv 65) (MOp.app 44 6 88 (Qn 62) (Qn 64)),Qa (Qv 66) (Qg 1 (Qn 7)),Qa none (Ql 1 (Qn 66) (Qn 65))]
def f33_c22:MC:=.r0 f33_r22
def f33_c25:MC:=.seq f33_c19 (.seq f33_c20 (.seq f33_c21 f33_c22))
def f33_r29:List MO:=[Qa (Qv 67) (Qe Qt Go.BinOp.add (Qn 27) (Qo (Qp (Qq (Qr Qu 1))))),Qa (Qv 27) (Qd (Qn 67))]
def f33_c29:MC:=.r0 f33_r29
def f33_c30:MC:=.seq (.blk 1 (.seq f33_c17 (.seq f33_c18 f33_c25))) f33_c29
def f33_r36:List MO:=[Qa (Qv 68) (Qf 2 true (Qn 7)),Qa none (Ql 2 (Qn 2) (Qn 68)),Qa (Qv 3) (Qd (Qo (Qp (Qq (Qr Qu 0)))))]
def f33_c36:MC:=.r0 f33_r36
def f33_c39:MC:=.seq (.seq f33_c12 (.blk 0 (.loop (.seq f33_c13 (.seq (.cond (Qn 28) .skip (MC.exit 0)) f33_c30))))) (.seq f33_c36 .ret)
def f33_c42:MC:=.seq (.seq f33_c1 (.seq f33_c2 (.cond (Qn 19) (.seq f33_c3 .ret) .skip))) (.seq f33_c10 (.seq f33_c11 f33_c39))
def f33_c43:MC:=.seq f33_c0 f33_c42
attribute [go_sem] f33_r0 f33_r1 f33_r2 f33_r3 f33_r11 f33_r12 f33_r13 f33_r17 f33_r18 f33_r19 f33_r20 f33_r21 f33_r22 f33_r29 f33_r36
theorem f33_k : KK QP 33 f33 [1] f33_c43 [(RV.cell 2 2 true),(RV.t 3)] 69 := by refine ⟨func33,?_,?_,?_,?_⟩<;>kernel_rfl
theorem f33_ok : callable QP 33 = true := by kernel_rfl
theorem f33_in (h : GI QP gp [(RV.cell 2 2 true),(RV.t 3)] res 69 f33_c43 args) : Does QP gp 33 args res := f33_k.i f33_ok h
def f62_r0:List MO:=[Qa (Qv 1) (MOp.ibox (Qn 0)),Qa (Qv 2) (Qd (Qo (Qp (Qq D.nilP))))]
def f62_c0:MC:=.r0 f62_r0
def f62_r1:List MO:=[Qa (Qv 3) (Qf 2 true (Qn 1)),Qa (Qv 4) MOp.mkM,Qa (Qv 5) (MOp.build [(Qr Qu 0),(D.sl []),(D.raw (Go.Value.map none))] [(0,(2,(Qn 3))),(2,(1,(Qn 4)))]),Qa (Qv 6) (MOp.box (Qn 5)),Qa (Qv 2) (Qd (Qn 6))]
def f62_c1:MC:=.r0 f62_r1
def f62_c4:MC:=.seq f62_c0 (.seq f62_c1 .ret)
attribute [go_sem] f62_r0 f62_r1
theorem f62_k : KK QP 62 f62 [1] f62_c4 [(RV.t 2)] 7 := by refine ⟨func62,?_,?_,?_,?_⟩<;>kernel_rfl
theorem f62_ok : callable QP 62 = true := by kernel_rfl
theorem f62_tri (h : GT QP gp [(RV.t 2)] pre R 7 f62_c4 args) : Tri QP gp 62 args pre R := f62_k.t h
def f63_r0:List MO:=[Qa (Qv 2) (Qd (Qo (Qp A.nil)))]
def f63_c0:MC:=.r0 f63_r0
def f63_r1:List MO:=[Qa (Qv 3) (MOp.alloc [(D.sl [])])]
def f63_c1:MC:=.r0 f63_r1
def f63_r2:List MO:=[Qa (Qv 5) (Qd (Qn 0)),Qa (Qv 6) (Qh 91 [(Qn 5)])]
def f63_c2:MC:=.r0 f63_r2
def f63_r3:List MO:=[Qa (Qv 4) (Qd (Qn 7))]
def f63_c3:MC:=.r0 f63_r3
def f63_r4:List MO:=[Qa (Qv 8) (Qf 1 false (Qn 3)),Qa (Qv 9) (Qd (Qn 4)),Qa (Qv 10) (MOp.bslice 1 [(Qr Qu 0)] 1 [(0,(Qn 9))]),Qa (Qv 11) (MOp.app 3 1 8 (Qn 8) (Qn 10)),Qa none (Ql 1 (Qn 3) (Qn 11))]
def f63_c4:MC:=.r0 f63_r4
def f63_c6:MC:=.rf (Qn 6) [7] f63_c3 (.blk 1 f63_c4)
def f63_r9:List MO:=[Qa (Qv 12) (Qf 1 false (Qn 3)),Qa (Qv 2) (Qd (Qn 12))]
def f63_c9:MC:=.r0 f63_r9
def f63_c13:MC:=.seq f63_c1 (.seq (.seq f63_c2 (.blk 0 f63_c6)) (.seq f63_c9 .ret))
def f63_c14:MC:=.seq f63_c0 f63_c13
attribute [go_sem] f63_r0 f63_r1 f63_r2 f63_r3 f63_r4 f63_r9
theorem f63_k : KK QP 63 f63 [] f63_c14 [(RV.t 2)] 13 := by refine ⟨func63,?_,?_,?_,?_⟩<;>kernel_rfl
theorem f63_ok : callable QP 63 = true := by kernel_rfl
theorem f63_tri (h : GT QP gp [(RV.t 2)] pre R 13 f63_c14 args) : Tri QP gp 63 args pre R := f63_k.t h
def f65_r0:List MO:=[Qa (Qv 4) (Qd (Qo (Qp A.nil)))]
def f65_c0:MC:=.r0 f65_r0
def f65_r1:List MO:=[Qa (Qv 8) (Qd (Qn 1)),Qa (Qv 9) (Qk Qt (Qn 8)),Qa (Qv 10) (MOp.mkS 1 8 [(Qr Qu 0)] (Qn 9)),Qa (Qv 5) (Qd (Qn 10))]
def f65_c1:MC:=.r0 f65_r1
def f65_r2:List MO:=[Qa (Qv 11) (Qd (Qn 5)),Qa (Qv 12) (Qd (Qn 1)),Qa (Qv 13) (MOp.cpy 1 (Qn 11) (Qn 12))]
def f65_c2:MC:=.r0 f65_r2
def f65_r3:List MO:=[Qa (Qv 14) (Qd (Qn 5)),Qa (Qv 15) (Qk Qt (Qn 14)),Qa (Qv 16) (Qd (Qo (Qp (Qq (Qr Qu 0)))))]
def f65_c3:MC:=.r0 f65_r3
def f65_r4:List MO:=[Qa (Qv 17) (Qe Qt Go.BinOp.lss (Qn 16) (Qn 15))]
def f65_c4:MC:=.r0 f65_r4
def f65_r8:List MO:=[Qa (Qv 18) (Qd (Qn 16)),Qa (Qv 19) (Qj 1 (Qn 14) (Qn 16)),Qa (Qv 20) (Qf 1 false (Qn 19)),Qa (Qv 6) (Qd (Qn 18)),Qa (Qv 7) (Qd (Qn 20))]
def f65_c8:MC:=.r0 f65_r8
def f65_r9:List MO:=[Qa (Qv 21) (Qd (Qn 5)),Qa (Qv 22) (Qd (Qn 6)),Qa (Qv 23) (Qd (Qn 0)),Qa (Qv 24) (MOp.nck (Qn 23)),Qa (Qv 25) (Qg 2 (Qn 24)),Qa (Qv 26) (Qf 1 false (Qn 25)),Qa (Qv 27) (Qd (Qn 7)),Qa (Qv 28) (MOp.lkp false (Qp (Qq (Qr Qu 0))) false [Qt] (Qn 26) (Qn 27)),Qa (Qv 29) (Qj 1 (Qn 21) (Qn 22)),Qa none (Ql 1 (Qn 29) (Qn 28))]
def f65_c9:MC:=.r0 f65_r9
def f65_r12:List MO:=[Qa (Qv 30) (Qe Qt Go.BinOp.add (Qn 16) (Qo (Qp (Qq (Qr Qu 1))))),Qa (Qv 16) (Qd (Qn 30))]
def f65_c12:MC:=.r0 f65_r12
def f65_c15:MC:=.seq f65_c4 (.seq (.cond (Qn 17) .skip (MC.exit 0)) (.seq (.blk 1 (.seq f65_c8 f65_c9)) f65_c12))
def f65_r19:List MO:=[Qa (Qv 31) (Qd (Qn 5)),Qa (Qv 4) (Qd (Qn 31))]
def f65_c19:MC:=.r0 f65_r19
def f65_c23:MC:=.seq f65_c2 (.seq (.seq f65_c3 (.blk 0 (.loop f65_c15))) (.seq f65_c19 .ret))
def f65_c25:MC:=.seq f65_c0 (.seq f65_c1 f65_c23)
attribute [go_sem] f65_r0 f65_r1 f65_r2 f65_r3 f65_r4 f65_r8 f65_r9 f65_r12
theorem f65_k : KK QP 65 f65 [] f65_c25 [(RV.t 4)] 32 := by refine ⟨func65,?_,?_,?_,?_⟩<;>kernel_rfl
theorem f65_ok : callable QP 65 = true := by kernel_rfl
theorem f65_tri (h : GT QP gp [(RV.t 4)] pre R 32 f65_c25 args) : Tri QP gp 65 args pre R := f65_k.t h
def f91_r0:List MO:=[Qa (Qv 1) (MOp.box (Qn 0)),Qa (Qv 2) (Qd (Qo (Qp (Qq D.nilF))))]
def f91_c0:MC:=.r0 f91_r0
def f91_r1:List MO:=[Qa (Qv 3) (MOp.mkF (Go.Fn.func 114) [(Qn 1)]),Qa (Qv 2) (Qd (Qn 3))]
def f91_c1:MC:=.r0 f91_r1
def f91_c4:MC:=.seq f91_c0 (.seq f91_c1 .ret)
attribute [go_sem] f91_r0 f91_r1
theorem f91_k : KK QP 91 f91 [] f91_c4 [(RV.t 2)] 4 := by refine ⟨func91,?_,?_,?_,?_⟩<;>kernel_rfl
theorem f91_ok : callable QP 91 = true := by kernel_rfl
theorem f91_tri (h : GT QP gp [(RV.t 2)] pre R 4 f91_c4 args) : Tri QP gp 91 args pre R := f91_k.t h
def f114_r0:List MO:=[Qa (Qv 10) (Qf 1 false (Qn 1)),Qa (Qv 11) (MOp.nck (Qn 10)),Qa (Qv 12) (Qg 0 (Qn 11)),Qa (Qv 13) (Qg 0 (Qn 12)),Qa (Qv 14) (Qf 1 false (Qn 13)),Qa (Qv 15) (MOp.bslO 1 [(Qr Qu 0)] 1 [(0,(Qn 14))]),Qa (Qv 3) (MOp.alloc [(D.sl [])]),Qa none (Ql 1 (Qn 3) (Qn 15))]
def f114_c0:MC:=.r0 f114_r0
def f114_r1:List MO:=[Qa (Qv 16) (MOp.mkF (Go.Fn.func 115) [(Qn 3)]),Qa (Qv 4) (Qd (Qn 16))]
def f114_c1:MC:=.r0 f114_r1
def f114_r3:List MO:=[Qa (Qv 17) (Qf 1 false (Qn 3)),Qa (Qv 18) (Qk Qt (Qn 17)),Qa (Qv 19) (Qe Qt Go.BinOp.gtr (Qn 18) (Qo (Qp (Qq (Qr Qu 0)))))]
def f114_c3:MC:=.r0 f114_r3
def f114_r8:List MO:=[Qa (Qv 20) (Qf 1 false (Qn 3)),Qa (Qv 21) (Qf 1 false (Qn 3)),Qa (Qv 22) (Qk Qt (Qn 21)),Qa (Qv 23) (Qe Qt Go.BinOp.sub (Qn 22) (Qo (Qp (Qq (Qr Qu 1))))),Qa (Qv 24) (Qj 1 (Qn 20) (Qn 23)),Qa (Qv 25) (Qf 1 false (Qn 24)),Qa (Qv 5) (Qd (Qn 25))]
def f114_c8:MC:=.r0 f114_r8
def f114_r9:List MO:=[Qa (Qv 26) (Qf 1 false (Qn 3)),Qa (Qv 27) (Qf 1 false (Qn 3)),Qa (Qv 28) (Qk Qt (Qn 27)),Qa (Qv 29) (Qe Qt Go.BinOp.sub (Qn 28) (Qo (Qp (Qq (Qr Qu 1))))),Qa (Qv 30) (MOp.slc 1 (Qn 26) none (Qv (Qn 29))),Qa none (Ql 1 (Qn 3) (Qn 30))]
def f114_c9:MC:=.r0 f114_r9
def f114_r10:List MO:=[Qa (Qv 32) (Qf 1 false (Qn 1)),Qa (Qv 33) (MOp.nck (Qn 32)),Qa (Qv 34) (Qg 2 (Qn 33)),Qa (Qv 35) (Qf 1 false (Qn 34)),Qa (Qv 36) (Qd (Qn 5)),Qa (Qv 37) (MOp.lkp true (Qp (Qq (Qr Qu 0))) false [Qt] (Qn 35) (Qn 36)),Qa (Qv 31) (Qd (Qn 37)),Qa (Qv 38) (Qi (Qn 31) 0),Qa (Qv 39) (Qi (Qn 31) 1),Qa (Qv 6) (Qd (Qn 38)),Qa (Qv 7) (Qd (Qn 39))]
def f114_c10:MC:=.r0 f114_r10
def f114_r11:List MO:=[Qa (Qv 40) (Qd (Qn 7))]
def f114_c11:MC:=.r0 f114_r11
def f114_r17:List MO:=[Qa (Qv 41) (Qf 1 false (Qn 1)),Qa (Qv 42) (MOp.nck (Qn 41)),Qa (Qv 43) (Qg 2 (Qn 42)),Qa (Qv 44) (Qf 1 false (Qn 43)),Qa (Qv 45) (Qd (Qn 5)),Qa (Qv 46) (Qf 1 false (Qn 1)),Qa (Qv 47) (MOp.nck (Qn 46)),Qa (Qv 48) (Qg 2 (Qn 47)),Qa (Qv 49) (Qf 1 false (Qn 48)),Qa (Qv 50) (Qk Leaf.b (Qn 49)),Qa none (MOp.mupd false [Qt] (Qn 44) (Qn 45) (Qn 50))]
def f114_c17:MC:=.reg true f114_r17
def f114_r18:List MO:=[Qa (Qv 51) (Qd (Qn 0)),Qa (Qv 52) (Qd (Qn 5)),Qa (Qv 53) (MOp.callv (Qn 51) [(Qn 52)]),Qa (Qv 54) (MOp.not (Qn 53))]
def f114_c18:MC:=.r0 f114_r18
def f114_r23:List MO:=[Qa (Qv 56) (Qf 1 false (Qn 1)),Qa (Qv 57) (MOp.nck (Qn 56)),Qa (Qv 58) (Qg 0 (Qn 57)),Qa (Qv 59) (Qf 2 true (Qn 58)),Qa (Qv 60) (Qd (Qn 5)),Qa (Qv 61) (Qh 21 [(Qn 59),(Qn 60)]),Qa (Qv 55) (Qd (Qn 61)),Qa (Qv 62) (Qi (Qn 55) 0),Qa (Qv 63) (Qi (Qn 55) 1),Qa (Qv 8) (Qd (Qn 62)),Qa (Qv 9) (Qd (Qn 63))]
def f114_c23:MC:=.r0 f114_r23
def f114_r24:List MO:=[Qa (Qv 64) (Qd (Qn 4)),Qa (Qv 65) (Qd (Qn 8)),Qa (Qv 66) (MOp.callv (Qn 64) [(Qn 65)])]
def f114_c24:MC:=.r0 f114_r24
def f114_c27:MC:=.seq f114_c17 (.seq (.seq f114_c18 (.cond (Qn 54) (MC.exit 0) .skip)) (.seq f114_c23 f114_c24))
def f114_c29:MC:=.seq f114_c9 (.seq (.seq f114_c10 (.seq f114_c11 (.cond (Qn 40) (MC.exit 1) .skip))) f114_c27)
def f114_c36:MC:=.seq f114_c1 (.seq .skip (.blk 0 (.loop (.seq (.seq f114_c3 (.cond (Qn 19) .skip (MC.exit 0))) (.blk 1 (.seq f114_c8 f114_c29))))))
def f114_c38:MC:=.scope (.seq f114_c0 f114_c36)
attribute [go_sem] f114_r0 f114_r1 f114_r3 f114_r8 f114_r9 f114_r10 f114_r11 f114_r17 f114_r18 f114_r23 f114_r24
theorem f114_k : KK QP 114 f114 [15] f114_c38 [] 67 := by refine ⟨func114,?_,?_,?_,?_⟩<;>kernel_rfl
theorem f114_ok : callable QP 114 = true := by kernel_rfl
theorem f114_tri (h : GT QP gp [] pre R 67 f114_c38 args) : Tri QP gp 114 args pre R := f114_k.t h
def f115_r0:List MO:=[Qa (Qv 4) (Qd (Qn 0)),Qa (Qv 5) (Qk Qt (Qn 4)),Qa (Qv 6) (Qe Qt Go.BinOp.sub (Qn 5) (Qo (Qp (Qq (Qr Qu 1))))),Qa (Qv 3) (Qd (Qn 6))]
def f115_c0:MC:=.r0 f115_r0
def f115_r1:List MO:=[Qa (Qv 7) (Qd (Qn 3)),Qa (Qv 8) (Qe Qt Go.BinOp.geq (Qn 7) (Qo (Qp (Qq (Qr Qu 0)))))]
def f115_c1:MC:=.r0 f115_r1
def f115_r6:List MO:=[Qa (Qv 11) (Qf 1 false (Qn 1)),Qa (Qv 12) (Qd (Qn 0)),Qa (Qv 13) (Qd (Qn 3)),Qa (Qv 14) (Qj 1 (Qn 12) (Qn 13)),Qa (Qv 15) (Qf 1 false (Qn 14)),Qa (Qv 16) (MOp.bslice 1 [(Qr Qu 0)] 1 [(0,(Qn 15))]),Qa (Qv 17) (MOp.app 3 1 8 (Qn 11) (Qn 16)),Qa none (Ql 1 (Qn 1) (Qn 17))]
def f115_c6:MC:=.reg true f115_r6
def f115_r8:List MO:=[Qa (Qv 9) (Qd (Qn 3)),Qa (Qv 10) (Qe Qt Go.BinOp.sub (Qn 9) (Qo (Qp (Qq (Qr Qu 1))))),Qa (Qv 3) (Qd (Qn 10))]
def f115_c8:MC:=.r0 f115_r8
def f115_c13:MC:=.seq f115_c0 (.blk 0 (.loop (.seq (.seq f115_c1 (.cond (Qn 8) .skip (MC.exit 0))) (.seq (.blk 1 f115_c6) f115_c8))))
attribute [go_sem] f115_r0 f115_r1 f115_r6 f115_r8
theorem f115_k : KK QP 115 f115 [] f115_c13 [] 18 := by refine ⟨func115,?_,?_,?_,?_⟩<;>kernel_rfl
theorem f115_ok : callable QP 115 = true := by kernel_rfl
theorem f115_tri (h : GT QP gp [] pre R 18 f115_c13 args) : Tri QP gp 115 args pre R := f115_k.t h
end Go.Fw.L07
