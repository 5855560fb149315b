/- Small codes. -/
import Derived.Test.YtbicdabccidliaaGreatDoorFd
import Derived.Test.YtbicdabccidliaaGreatDoorProg
set_option linter.all false
namespace Go.Fw.L07
open Go Go.Fw
open Go.Proofs.Tryz renaming prog -> QP
open Go.Proofs.Tryz (f117 f12 f28 f29 f31 f34 f58 f59 f60 f92 f93 func117 func12 func28 func29 func31 func34 func58 func59 func60 func92 func93)
open Go.Fw.MO renaming op -> Qa,chk -> Qb,opx -> Qc
open Go.Fw.MOp renaming mv -> Qd,bin -> Qe,load -> Qf,fad -> Qg,call -> Qh,ext -> Qi,iad -> Qj,len -> Qk,store -> Ql,pick -> Qm
open Go.Fw.Opd renaming t -> Qn,c -> Qo
open Go.Fw.V renaming one -> Qp
open Go.Fw.A renaming d -> Qq
open Go.Fw.D renaming int -> Qr,bool -> Qs
open Go.Fw.Leaf renaming i -> Qt
open Go.IntKind renaming i64 -> Qu
open Option renaming some -> Qv
variable {gp : Heap} {args : List V} {res : V} {pre : List Ch} {R : V -> List Ch -> Prop}
def f12_r0:List MO:=[Qa (Qv 1) (MOp.box (Qn 0)),Qa (Qv 2) (Qd (Qo (Qp (Qq (Qs false)))))]
def f12_c0:MC:=.r0 f12_r0
def f12_r1:List MO:=[Qa (Qv 12) (Qh 28 []),Qa (Qv 3) (Qd (Qn 12))]
def f12_c1:MC:=.r0 f12_r1
def f12_r2:List MO:=[Qa (Qv 13) (Qf 2 true (Qn 1)),Qa (Qv 14) (Qh 17 [(Qn 13),(Qo (Qp (Qq (Qr Qu 60))))]),Qa none (Ql 2 (Qn 1) (Qn 14))]
def f12_c2:MC:=.r0 f12_r2
def f12_r3:List MO:=[Qa (Qv 16) (Qf 2 true (Qn 1)),Qa (Qv 17) (Qh 29 [(Qn 16)]),Qa (Qv 15) (Qd (Qn 17)),Qa (Qv 18) (Qi (Qn 15) 0),Qa (Qv 19) (Qi (Qn 15) 1),Qa (Qv 4) (MOp.alloc [(Qr Qu 0),(D.sl [])]),Qa none (Ql 2 (Qn 4) (Qn 18)),Qa (Qv 5) (Qd (Qn 19))]
def f12_c3:MC:=.r0 f12_r3
def f12_r4:List MO:=[Qa (Qv 20) (Qd (Qn 5)),Qa (Qv 21) (Qe Qt Go.BinOp.neq (Qn 20) (Qo (Qp (Qq (Qr Qu 0)))))]
def f12_c4:MC:=.r0 f12_r4
def f12_r5:List MO:=[Qa (Qv 23) (Qf 2 true (Qn 1)),Qa (Qv 24) (Qh 37 [(Qn 23)]),Qa (Qv 22) (Qd (Qn 24)),Qa (Qv 25) (Qi (Qn 22) 0),Qa (Qv 26) (Qi (Qn 22) 1),Qa (Qv 6) (Qd (Qn 25)),Qa (Qv 7) (Qd (Qn 26))]
def f12_c5:MC:=.r0 f12_r5
def f12_r6:List MO:=[Qa (Qv 27) (Qd (Qn 3)),Qa (Qv 28) (Qd (Qn 27)),Qb 28 true (Qv 29),Qa (Qv 29) (Qd (Qn 7)),Qb 28 true (Qv 30),Qa (Qv 30) (Qd (Qn 5)),Qb 28 true (Qv 31),Qa (Qv 31) (Qe Qt Go.BinOp.eql (Qn 29) (Qn 30)),Qa (Qv 32) (Qm (Qn 28) (Qn 31) (Qo (Qp (Qq (Qs false))))),Qa (Qv 33) (Qd (Qn 32)),Qb 33 true (Qv 34),Qa (Qv 34) (Qg 1 (Qn 4)),Qb 33 true (Qv 35),Qa (Qv 35) (Qf 1 false (Qn 34)),Qb 33 true (Qv 36),Qa (Qv 36) (Qk Qt (Qn 35)),Qb 33 true (Qv 37),Qa (Qv 37) (Qe Qt Go.BinOp.eql (Qn 36) (Qo (Qp (Qq (Qr Qu 0))))),Qa (Qv 38) (Qm (Qn 33) (Qn 37) (Qo (Qp (Qq (Qs false))))),Qa (Qv 2) (Qd (Qn 38))]
def f12_c6:MC:=.r0 f12_r6
def f12_r13:List MO:=[Qa (Qv 40) (Qf 2 true (Qn 1)),Qa (Qv 41) (Qf 2 true (Qn 4)),Qa (Qv 42) (Qh 20 [(Qn 40),(Qn 41)]),Qa (Qv 39) (Qd (Qn 42)),Qa (Qv 43) (Qi (Qn 39) 0),Qa (Qv 44) (Qi (Qn 39) 1),Qa (Qv 8) (Qd (Qn 43)),Qa (Qv 9) (Qd (Qn 44))]
def f12_c13:MC:=.r0 f12_r13
def f12_r14:List MO:=[Qa (Qv 46) (Qf 2 true (Qn 4)),Qa (Qv 47) (Qh 29 [(Qn 46)]),Qa (Qv 45) (Qd (Qn 47)),Qa (Qv 48) (Qi (Qn 45) 0),Qa (Qv 49) (Qi (Qn 45) 1),Qa (Qv 10) (MOp.alloc [(Qr Qu 0),(D.sl [])]),Qa none (Ql 2 (Qn 10) (Qn 48)),Qa (Qv 11) (Qd (Qn 49))]
def f12_c14:MC:=.r0 f12_r14
def f12_r15:List MO:=[Qa (Qv 50) (Qd (Qn 3)),Qa (Qv 51) (Qd (Qn 50)),Qb 51 true (Qv 52),Qa (Qv 52) (Qd (Qn 8)),Qa (Qv 53) (Qm (Qn 51) (Qn 52) (Qo (Qp (Qq (Qs false))))),Qa (Qv 54) (Qd (Qn 53)),Qb 54 true (Qv 55),Qa (Qv 55) (Qd (Qn 9)),Qb 54 true (Qv 56),Qa (Qv 56) (Qe Qt Go.BinOp.eql (Qn 55) (Qo (Qp (Qq (Qr Qu 0))))),Qa (Qv 57) (Qm (Qn 54) (Qn 56) (Qo (Qp (Qq (Qs false))))),Qa (Qv 58) (Qd (Qn 57)),Qb 58 true (Qv 59),Qa (Qv 59) (Qf 2 true (Qn 4)),Qb 58 true (Qv 60),Qc (Qv 60) (Qh 34 [(Qn 59)]),Qa (Qv 61) (Qm (Qn 58) (Qn 60) (Qo (Qp (Qq (Qs false))))),Qa (Qv 62) (Qd (Qn 61)),Qb 62 true (Qv 63),Qa (Qv 63) (Qd (Qn 11)),Qb 62 true (Qv 64),Qa (Qv 64) (Qe Qt Go.BinOp.eql (Qn 63) (Qo (Qp (Qq (Qr Qu 0))))),Qa (Qv 65) (Qm (Qn 62) (Qn 64) (Qo (Qp (Qq (Qs false))))),Qa (Qv 66) (Qd (Qn 65)),Qb 66 true (Qv 67),Qa (Qv 67) (Qf 2 true (Qn 4)),Qb 66 true (Qv 68),Qa (Qv 68) (Qf 2 true (Qn 10)),Qb 66 true (Qv 69),Qc (Qv 69) (Qh 38 [(Qn 67),(Qn 68)]),Qa (Qv 70) (Qm (Qn 66) (Qn 69) (Qo (Qp (Qq (Qs false))))),Qa (Qv 71) (Qd (Qn 70)),Qb 71 true (Qv 72),Qa (Qv 72) (Qg 1 (Qn 4)),Qb 71 true (Qv 73),Qa (Qv 73) (Qf 1 false (Qn 72)),Qb 71 true (Qv 74),Qa (Qv 74) (Qk Qt (Qn 73)),Qb 71 true (Qv 75),Qa (Qv 75) (Qg 1 (Qn 1)),Qb 71 true (Qv 76),Qa (Qv 76) (Qf 1 false (Qn 75)),Qb 71 true (Qv 77),Qa (Qv 77) (Qk Qt (Qn 76)),Qb 71 true (Qv 78),Qa (Qv 78) (Qe Qt Go.BinOp.leq (Qn 74) (Qn 77)),Qa (Qv 79) (Qm (Qn 71) (Qn 78) (Qo (Qp (Qq (Qs false))))),Qa (Qv 80) (Qd (Qn 79)),Qb 80 true (Qv 81),Qa (Qv 81) (Qf 2 true (Qn 1)),Qb 80 true (Qv 82),Qa (Qv 82) (Qh 34 [(Qn 81)]),Qb 80 true (Qv 83),Qa (Qv 83) (Qf 2 true (Qn 1)),Qb 80 true (Qv 84),Qa (Qv 84) (Qf 2 true (Qn 4)),Qb 80 true (Qv 85),Qc (Qv 85) (Qh 38 [(Qn 83),(Qn 84)]),Qb 80 true (Qv 86),Qa (Qv 86) (Qe Leaf.b Go.BinOp.eql (Qn 82) (Qn 85)),Qa (Qv 87) (Qm (Qn 80) (Qn 86) (Qo (Qp (Qq (Qs false))))),Qa (Qv 2) (Qd (Qn 87))]
def f12_c15:MC:=.reg true f12_r15
def f12_c20:MC:=.seq (.seq f12_c4 (.cond (Qn 21) (.seq f12_c5 (.seq f12_c6 .ret)) .skip)) (.seq f12_c13 (.seq f12_c14 (.seq f12_c15 .ret)))
def f12_c23:MC:=.seq f12_c1 (.seq f12_c2 (.seq f12_c3 f12_c20))
def f12_c24:MC:=.seq f12_c0 f12_c23
attribute [go_sem] f12_r0 f12_r1 f12_r2 f12_r3 f12_r4 f12_r5 f12_r6 f12_r13 f12_r14 f12_r15
theorem f12_k : KK QP 12 f12 [] f12_c24 [(RV.t 2)] 88 := ⟨func12,by kernel_rfl,by kernel_rfl,by kernel_rfl,by kernel_rfl⟩
theorem f12_ok : callable QP 12 = true := by kernel_rfl
theorem f12_in (h : GI QP gp [(RV.t 2)] res 88 f12_c24 args) : Does QP gp 12 args res := f12_k.i f12_ok h
def f28_r0:List MO:=[Qa (Qv 0) (Qd (Qo (Qp (Qq (Qs false)))))]
def f28_c0:MC:=.r0 f28_r0
def f28_r1:List MO:=[Qa (Qv 9) (MOp.build [(Qr Qu 0),(Qr Qu 0),(D.str (ByteArray.mk #[]))] [(0,(1,(Qo (Qp (Qq (Qr Qu 2)))))),(1,(1,(Qo (Qp (Qq (Qr Qu 5))))))]),Qa (Qv 10) (MOp.build [(Qr Qu 0),(Qr Qu 0),(Qr Qu 0),(D.str (ByteArray.mk #[])),(D.sl []),(D.sl [])] [(1,(3,(Qn 9)))]),Qa (Qv 1) (MOp.alloc [(Qr Qu 0),(Qr Qu 0),(Qr Qu 0),(D.str (ByteArray.mk #[])),(D.sl []),(D.sl [])]),Qa none (Ql 6 (Qn 1) (Qn 10))]
def f28_c1:MC:=.r0 f28_r1
def f28_r2:List MO:=[Qa (Qv 11) (Qf 6 true (Qn 1)),Qa (Qv 12) (MOp.bslice 1 [(Qr Qu 0)] 2 [(0,(Qo (Qp (Qq (Qr Qu 0))))),(1,(Qo (Qp (Qq (Qr Qu 2)))))]),Qa (Qv 13) (MOp.build [(Qr Qu 0),(Qr Qu 0),(Qr Qu 0),(D.str (ByteArray.mk #[])),(D.sl []),(D.sl [])] [(0,(1,(Qo (Qp (Qq (Qr Qu 1)))))),(5,(1,(Qn 12)))]),Qa (Qv 14) (Qf 6 true (Qn 1)),Qa (Qv 15) (MOp.build [(Qr Qu 0),(Qr Qu 0),(Qr Qu 0),(D.str (ByteArray.mk #[])),(D.sl []),(D.sl [])] []),Qa (Qv 16) (MOp.bslice 6 [(Qr Qu 0),(Qr Qu 0),(Qr Qu 0),(D.str (ByteArray.mk #[])),(D.sl []),(D.sl [])] 4 [(0,(Qn 11)),(1,(Qn 13)),(2,(Qn 14)),(3,(Qn 15))]),Qa (Qv 17) (MOp.build [(Qr Qu 0),(D.sl [])] [(0,(1,(Qo (Qp (Qq (Qr Qu 1)))))),(1,(1,(Qn 16)))]),Qa (Qv 2) (MOp.alloc [(Qr Qu 0),(D.sl [])]),Qa none (Ql 2 (Qn 2) (Qn 17))]
def f28_c2:MC:=.r0 f28_r2
def f28_r3:List MO:=[Qa (Qv 19) (Qf 2 true (Qn 2)),Qa (Qv 20) (Qh 29 [(Qn 19)]),Qa (Qv 18) (Qd (Qn 20)),Qa (Qv 21) (Qi (Qn 18) 0),Qa (Qv 22) (Qi (Qn 18) 1),Qa (Qv 3) (MOp.alloc [(Qr Qu 0),(D.sl [])]),Qa none (Ql 2 (Qn 3) (Qn 21)),Qa (Qv 4) (Qd (Qn 22))]
def f28_c3:MC:=.r0 f28_r3
def f28_r4:List MO:=[Qa (Qv 24) (Qf 2 true (Qn 2)),Qa (Qv 25) (Qh 31 [(Qn 24)]),Qa (Qv 23) (Qd (Qn 25)),Qa (Qv 26) (Qi (Qn 23) 0),Qa (Qv 27) (Qi (Qn 23) 1),Qa (Qv 5) (Qd (Qn 26)),Qa (Qv 6) (Qd (Qn 27))]
def f28_c4:MC:=.r0 f28_r4
def f28_r5:List MO:=[Qa (Qv 29) (MOp.build [(Qr Qu 0),(D.sl [])] []),Qa (Qv 30) (Qh 29 [(Qn 29)]),Qa (Qv 28) (Qd (Qn 30)),Qa (Qv 31) (Qi (Qn 28) 0),Qa (Qv 32) (Qi (Qn 28) 1),Qa (Qv 7) (MOp.alloc [(Qr Qu 0),(D.sl [])]),Qa none (Ql 2 (Qn 7) (Qn 31)),Qa (Qv 8) (Qd (Qn 32))]
def f28_c5:MC:=.r0 f28_r5
def f28_r6:List MO:=[Qa (Qv 33) (Qd (Qn 4)),Qa (Qv 34) (Qe Qt Go.BinOp.eql (Qn 33) (Qo (Qp (Qq (Qr Qu 0))))),Qa (Qv 35) (Qd (Qn 34)),Qb 35 true (Qv 36),Qa (Qv 36) (Qf 2 true (Qn 3)),Qb 35 true (Qv 37),Qa (Qv 37) (MOp.bslice 1 [(Qr Qu 0)] 2 [(0,(Qo (Qp (Qq (Qr Qu 1))))),(1,(Qo (Qp (Qq (Qr Qu 1)))))]),Qb 35 true (Qv 38),Qa (Qv 38) (MOp.build [(Qr Qu 0),(Qr Qu 0),(Qr Qu 0),(D.str (ByteArray.mk #[])),(D.sl []),(D.sl [])] [(0,(1,(Qo (Qp (Qq (Qr Qu 1)))))),(5,(1,(Qn 37)))]),Qb 35 true (Qv 39),Qa (Qv 39) (Qf 6 true (Qn 1)),Qb 35 true (Qv 40),Qa (Qv 40) (MOp.bslice 6 [(Qr Qu 0),(Qr Qu 0),(Qr Qu 0),(D.str (ByteArray.mk #[])),(D.sl []),(D.sl [])] 2 [(0,(Qn 38)),(1,(Qn 39))]),Qb 35 true (Qv 41),Qa (Qv 41) (MOp.build [(Qr Qu 0),(D.sl [])] [(1,(1,(Qn 40)))]),Qb 35 true (Qv 42),Qa (Qv 42) (Qh 38 [(Qn 36),(Qn 41)]),Qa (Qv 43) (Qm (Qn 35) (Qn 42) (Qo (Qp (Qq (Qs false))))),Qa (Qv 44) (Qd (Qn 43)),Qb 44 true (Qv 45),Qa (Qv 45) (Qd (Qn 6)),Qb 44 true (Qv 46),Qa (Qv 46) (Qe Qt Go.BinOp.eql (Qn 45) (Qo (Qp (Qq (Qr Qu 0))))),Qa (Qv 47) (Qm (Qn 44) (Qn 46) (Qo (Qp (Qq (Qs false))))),Qa (Qv 48) (Qd (Qn 47)),Qb 48 true (Qv 49),Qa (Qv 49) (Qd (Qn 5)),Qb 48 true (Qv 50),Qa (Qv 50) (MOp.bslice 1 [(Qr Qu 0)] 4 [(0,(Qo (Qp (Qq (Qr Qu 1))))),(1,(Qo (Qp (Qq (Qr Qu 0))))),(2,(Qo (Qp (Qq (Qr Qu 1))))),(3,(Qo (Qp (Qq (Qr Qu (-1))))))]),Qb 48 true (Qv 51),Qa (Qv 51) (Qh 24 [(Qn 49),(Qn 50)]),Qa (Qv 52) (Qm (Qn 48) (Qn 51) (Qo (Qp (Qq (Qs false))))),Qa (Qv 53) (Qd (Qn 52)),Qb 53 true (Qv 54),Qa (Qv 54) (Qd (Qn 8)),Qb 53 true (Qv 55),Qa (Qv 55) (Qe Qt Go.BinOp.eql (Qn 54) (Qo (Qp (Qq (Qr Qu 70))))),Qa (Qv 56) (Qm (Qn 53) (Qn 55) (Qo (Qp (Qq (Qs false))))),Qa (Qv 57) (Qd (Qn 56)),Qb 57 true (Qv 58),Qa (Qv 58) (Qf 2 true (Qn 3)),Qb 57 true (Qv 59),Qa (Qv 59) (Qh 34 [(Qn 58)]),Qa (Qv 60) (Qm (Qn 57) (Qn 59) (Qo (Qp (Qq (Qs false))))),Qa (Qv 61) (Qd (Qn 60)),Qb 61 true (Qv 62),Qa (Qv 62) (Qf 2 true (Qn 2)),Qb 61 true (Qv 63),Qa (Qv 63) (Qh 34 [(Qn 62)]),Qb 61 true (Qv 64),Qa (Qv 64) (MOp.not (Qn 63)),Qa (Qv 65) (Qm (Qn 61) (Qn 64) (Qo (Qp (Qq (Qs false))))),Qa (Qv 0) (Qd (Qn 65))]
def f28_c6:MC:=.r0 f28_r6
def f28_c11:MC:=.seq f28_c3 (.seq f28_c4 (.seq f28_c5 (.seq f28_c6 .ret)))
def f28_c14:MC:=.seq f28_c0 (.seq f28_c1 (.seq f28_c2 f28_c11))
attribute [go_sem] f28_r0 f28_r1 f28_r2 f28_r3 f28_r4 f28_r5 f28_r6
theorem f28_k : KK QP 28 f28 [] f28_c14 [(RV.t 0)] 66 := ⟨func28,by kernel_rfl,by kernel_rfl,by kernel_rfl,by kernel_rfl⟩
theorem f28_ok : callable QP 28 = true := by kernel_rfl
theorem f28_in (h : GI QP gp [(RV.t 0)] res 66 f28_c14 args) : Does QP gp 28 args res := f28_k.i f28_ok h
def f29_r0:List MO:=[Qa (Qv 1) (MOp.ibox (Qn 0)),Qa (Qv 2) (MOp.alloc [(Qr Qu 0),(D.sl [])]),Qa (Qv 3) (Qd (Qo (Qp (Qq (Qr Qu 0)))))]
def f29_c0:MC:=.r0 f29_r0
def f29_r1:List MO:=[Qa (Qv 7) (Qf 2 true (Qn 1)),Qa (Qv 8) (Qh 58 [(Qn 7)]),Qa (Qv 6) (Qd (Qn 8)),Qa (Qv 9) (Qi (Qn 6) 0),Qa (Qv 10) (Qi (Qn 6) 1),Qa (Qv 4) (Qd (Qn 9)),Qa (Qv 5) (Qd (Qn 10))]
def f29_c1:MC:=.r0 f29_r1
def f29_r2:List MO:=[Qa (Qv 11) (Qd (Qn 5)),Qa (Qv 12) (MOp.nilq NK.ifc true (Qn 11))]
def f29_c2:MC:=.r0 f29_r2
def f29_r3:List MO:=[Qa (Qv 13) (MOp.build [(Qr Qu 0),(D.sl [])] []),Qa (Qv 14) (Qd (Qn 5)),Qa (Qv 15) (Qh 59 [(Qn 14)]),Qa none (Ql 2 (Qn 2) (Qn 13)),Qa (Qv 3) (Qd (Qn 15))]
def f29_c3:MC:=.r0 f29_r3
def f29_r9:List MO:=[Qa (Qv 16) (Qd (Qn 4)),Qa (Qv 17) (Qh 60 [(Qn 16)]),Qa (Qv 18) (Qh 39 [(Qn 17)]),Qa (Qv 19) (Qi (Qn 18) 0),Qa (Qv 20) (Qi (Qn 18) 1),Qa none (Ql 2 (Qn 2) (Qn 19)),Qa (Qv 3) (Qd (Qn 20))]
def f29_c9:MC:=.r0 f29_r9
def f29_c13:MC:=.seq f29_c1 (.seq (.seq f29_c2 (.cond (Qn 12) (.seq f29_c3 .ret) .skip)) (.seq f29_c9 .ret))
def f29_c14:MC:=.seq f29_c0 f29_c13
attribute [go_sem] f29_r0 f29_r1 f29_r2 f29_r3 f29_r9
theorem f29_k : KK QP 29 f29 [1] f29_c14 [(RV.cell 2 2 true),(RV.t 3)] 21 := ⟨func29,by kernel_rfl,by kernel_rfl,by kernel_rfl,by kernel_rfl⟩
theorem f29_ok : callable QP 29 = true := by kernel_rfl
theorem f29_in (h : GI QP gp [(RV.cell 2 2 true),(RV.t 3)] res 21 f29_c14 args) : Does QP gp 29 args res := f29_k.i f29_ok h
def f31_r0:List MO:=[Qa (Qv 1) (MOp.ibox (Qn 0)),Qa (Qv 2) (Qd (Qo (Qp A.nil))),Qa (Qv 3) (Qd (Qo (Qp (Qq (Qr Qu 0)))))]
def f31_c0:MC:=.r0 f31_r0
def f31_r1:List MO:=[Qa (Qv 18) (Qf 2 true (Qn 1)),Qa (Qv 19) (Qh 58 [(Qn 18)]),Qa (Qv 17) (Qd (Qn 19)),Qa (Qv 20) (Qi (Qn 17) 0),Qa (Qv 21) (Qi (Qn 17) 1),Qa (Qv 4) (Qd (Qn 20)),Qa (Qv 5) (Qd (Qn 21))]
def f31_c1:MC:=.r0 f31_r1
def f31_r2:List MO:=[Qa (Qv 22) (Qd (Qn 5)),Qa (Qv 23) (MOp.nilq NK.ifc true (Qn 22))]
def f31_c2:MC:=.r0 f31_r2
def f31_r3:List MO:=[Qa (Qv 24) (Qd (Qn 5)),Qa (Qv 25) (Qh 59 [(Qn 24)]),Qa (Qv 2) (Qd (Qo (Qp A.nil))),Qa (Qv 3) (Qd (Qn 25))]
def f31_c3:MC:=.r0 f31_r3
def f31_r9:List MO:=[Qa (Qv 26) (Qd (Qn 4)),Qa (Qv 27) (MOp.mkMv (Go.Fn.func 60) (Qn 26)),Qa (Qv 6) (Qd (Qn 27))]
def f31_c9:MC:=.r0 f31_r9
def f31_r10:List MO:=[Qa (Qv 29) (Qd (Qn 6)),Qa (Qv 30) (MOp.callv (Qn 29) []),Qa (Qv 31) (Qh 36 [(Qn 30)]),Qa (Qv 28) (Qd (Qn 31)),Qa (Qv 32) (Qi (Qn 28) 0),Qa (Qv 33) (Qi (Qn 28) 1),Qa (Qv 7) (Qd (Qn 32)),Qa (Qv 8) (Qd (Qn 33))]
def f31_c10:MC:=.r0 f31_r10
def f31_r11:List MO:=[Qa (Qv 34) MOp.mkM,Qa (Qv 9) (Qd (Qn 34))]
def f31_c11:MC:=.r0 f31_r11
def f31_r12:List MO:=[Qa (Qv 35) (Qd (Qn 7)),Qa (Qv 36) (Qk Qt (Qn 35)),Qa (Qv 37) (Qd (Qo (Qp (Qq (Qr Qu 0)))))]
def f31_c12:MC:=.r0 f31_r12
def f31_r13:List MO:=[Qa (Qv 38) (Qe Qt Go.BinOp.lss (Qn 37) (Qn 36))]
def f31_c13:MC:=.r0 f31_r13
def f31_r17:List MO:=[Qa (Qv 39) (Qd (Qn 37)),Qa (Qv 40) (Qj 1 (Qn 35) (Qn 37)),Qa (Qv 41) (Qf 1 false (Qn 40)),Qa (Qv 10) (Qd (Qn 39)),Qa (Qv 11) (Qd (Qn 41))]
def f31_c17:MC:=.r0 f31_r17
def f31_r18:List MO:=[Qa (Qv 42) (Qd (Qn 9)),Qa (Qv 43) (Qd (Qn 11)),Qa (Qv 44) (Qd (Qn 10)),Qa none (MOp.mupd false [Qt] (Qn 42) (Qn 43) (Qn 44))]
def f31_c18:MC:=.r0 f31_r18
def f31_r21:List MO:=[Qa (Qv 45) (Qe Qt Go.BinOp.add (Qn 37) (Qo (Qp (Qq (Qr Qu 1))))),Qa (Qv 37) (Qd (Qn 45))]
def f31_c21:MC:=.r0 f31_r21
def f31_c24:MC:=.seq f31_c13 (.seq (.cond (Qn 38) .skip (MC.exit 0)) (.seq (.blk 1 (.seq f31_c17 f31_c18)) f31_c21))
def f31_r28:List MO:=[Qa (Qv 12) (Qd (Qo (Qp A.nil)))]
def f31_c28:MC:=.r0 f31_r28
def f31_r29:List MO:=[Qa (Qv 46) (Qd (Qn 4)),Qa (Qv 47) (MOp.nck (Qn 46)),Qa (Qv 48) (Qg 2 (Qn 47)),Qa (Qv 49) (Qf 1 false (Qn 48)),Qa (Qv 50) (Qk Qt (Qn 49)),Qa (Qv 51) (Qd (Qo (Qp (Qq (Qr Qu 0)))))]
def f31_c29:MC:=.r0 f31_r29
def f31_r30:List MO:=[Qa (Qv 52) (Qe Qt Go.BinOp.lss (Qn 51) (Qn 50))]
def f31_c30:MC:=.r0 f31_r30
def f31_r34:List MO:=[Qa (Qv 53) (Qj 1 (Qn 49) (Qn 51)),Qa (Qv 54) (Qf 1 false (Qn 53)),Qa (Qv 14) (Qd (Qn 54))]
def f31_c34:MC:=.r0 f31_r34
def f31_r35:List MO:=[Qa (Qv 56) (Qd (Qn 9)),Qa (Qv 57) (Qd (Qn 14)),Qa (Qv 58) (MOp.lkp true (Qp (Qq (Qr Qu 0))) false [Qt] (Qn 56) (Qn 57)),Qa (Qv 55) (Qd (Qn 58)),Qa (Qv 59) (Qi (Qn 55) 0),Qa (Qv 60) (Qi (Qn 55) 1),Qa (Qv 15) (Qd (Qn 59)),Qa (Qv 16) (Qd (Qn 60))]
def f31_c35:MC:=.r0 f31_r35
def f31_r36:List MO:=[Qa (Qv 61) (Qd (Qn 16)),Qa (Qv 62) (MOp.not (Qn 61))]
def f31_c36:MC:=.r0 f31_r36
def f31_r37:List MO:=[Qa (Qv 15) (Qd (Qo (Qp (Qq (Qr Qu (-1))))))]
def f31_c37:MC:=.r0 f31_r37
def f31_r41:List MO:=[Qa (Qv 63) (Qd (Qn 12)),Qa (Qv 64) (Qd (Qn 15)),Qa (Qv 65) (MOp.bslice 1 [(Qr Qu 0)] 1 [(0,(Qn 64))]),Qa (Qv 66) (MOp.app 3 1 8 (Qn 63) (Qn 65)),Qa (Qv 12) (Qd (Qn 66))]
def f31_c41:MC:=.r0 f31_r41
def f31_c43:MC:=.seq f31_c35 (.seq (.seq f31_c36 (.cond (Qn 62) f31_c37 .skip)) f31_c41)
def f31_r46:List MO:=[Qa (Qv 67) (Qe Qt Go.BinOp.add (Qn 51) (Qo (Qp (Qq (Qr Qu 1))))),Qa (Qv 51) (Qd (Qn 67))]
def f31_c46:MC:=.r0 f31_r46
def f31_c49:MC:=.seq f31_c30 (.seq (.cond (Qn 52) .skip (MC.exit 2)) (.seq (.blk 3 (.seq f31_c34 f31_c43)) f31_c46))
def f31_r53:List MO:=[Qa (Qv 68) (Qd (Qn 12)),Qa (Qv 69) (Qd (Qn 8)),Qa (Qv 2) (Qd (Qn 68)),Qa (Qv 3) (Qd (Qn 69))]
def f31_c53:MC:=.r0 f31_r53
def f31_c57:MC:=.seq f31_c28 (.seq (.seq f31_c29 (.blk 2 (.loop f31_c49))) (.seq f31_c53 .ret))
def f31_c59:MC:=.seq f31_c11 (.seq (.seq f31_c12 (.blk 0 (.loop f31_c24))) f31_c57)
def f31_c62:MC:=.seq (.seq f31_c2 (.cond (Qn 23) (.seq f31_c3 .ret) .skip)) (.seq f31_c9 (.seq f31_c10 f31_c59))
def f31_c64:MC:=.seq f31_c0 (.seq f31_c1 f31_c62)
theorem f31_k : KK QP 31 f31 [1] f31_c64 [(RV.t 2),(RV.t 3)] 70 := ⟨func31,by kernel_rfl,by kernel_rfl,by kernel_rfl,by kernel_rfl⟩
theorem f31_ok : callable QP 31 = true := by kernel_rfl
theorem f31_in (h : GI QP gp [(RV.t 2),(RV.t 3)] res 70 f31_c64 args) : Does QP gp 31 args res := f31_k.i f31_ok h
def f34_r0:List MO:=[Qa (Qv 1) (MOp.ibox (Qn 0)),Qa (Qv 2) (Qd (Qo (Qp (Qq (Qs false)))))]
def f34_c0:MC:=.r0 f34_r0
def f34_r1:List MO:=[Qa (Qv 6) (Qf 2 true (Qn 1)),Qa (Qv 7) (Qh 29 [(Qn 6)]),Qa (Qv 5) (Qd (Qn 7)),Qa (Qv 8) (Qi (Qn 5) 0),Qa (Qv 9) (Qi (Qn 5) 1),Qa (Qv 3) (MOp.alloc [(Qr Qu 0),(D.sl [])]),Qa none (Ql 2 (Qn 3) (Qn 8)),Qa (Qv 4) (Qd (Qn 9))]
def f34_c1:MC:=.r0 f34_r1
def f34_r2:List MO:=[Qa (Qv 10) (Qd (Qn 4)),Qa (Qv 11) (Qe Qt Go.BinOp.eql (Qn 10) (Qo (Qp (Qq (Qr Qu 0))))),Qa (Qv 12) (Qd (Qn 11)),Qb 12 true (Qv 13),Qa (Qv 13) (Qf 2 true (Qn 1)),Qb 12 true (Qv 14),Qa (Qv 14) (Qf 2 true (Qn 3)),Qb 12 true (Qv 15),Qa (Qv 15) (Qh 38 [(Qn 13),(Qn 14)]),Qa (Qv 16) (Qm (Qn 12) (Qn 15) (Qo (Qp (Qq (Qs false))))),Qa (Qv 2) (Qd (Qn 16))]
def f34_c2:MC:=.r0 f34_r2
def f34_c6:MC:=.seq f34_c0 (.seq f34_c1 (.seq f34_c2 .ret))
attribute [go_sem] f34_r0 f34_r1 f34_r2
theorem f34_k : KK QP 34 f34 [1] f34_c6 [(RV.t 2)] 17 := ⟨func34,by kernel_rfl,by kernel_rfl,by kernel_rfl,by kernel_rfl⟩
theorem f34_ok : callable QP 34 = true := by kernel_rfl
theorem f34_in (h : GI QP gp [(RV.t 2)] res 17 f34_c6 args) : Does QP gp 34 args res := f34_k.i f34_ok h
def f58_r0:List MO:=[Qa (Qv 1) (MOp.ibox (Qn 0)),Qa (Qv 2) (Qd (Qo (Qp (Qq D.nilP)))),Qa (Qv 3) (Qd (Qo (Qp (Qq D.nilI))))]
def f58_c0:MC:=.r0 f58_r0
def f58_r1:List MO:=[Qa (Qv 7) (Qf 2 true (Qn 1)),Qa (Qv 8) (Qh 18 [(Qn 7)]),Qa (Qv 6) (Qd (Qn 8)),Qa (Qv 9) (Qi (Qn 6) 0),Qa (Qv 10) (Qi (Qn 6) 1),Qa (Qv 4) (Qd (Qn 9)),Qa (Qv 5) (Qd (Qn 10))]
def f58_c1:MC:=.r0 f58_r1
def f58_r2:List MO:=[Qa (Qv 11) (Qd (Qn 5)),Qa (Qv 12) (Qe Qt Go.BinOp.neq (Qn 11) (Qo (Qp (Qq (Qr Qu 0)))))]
def f58_c2:MC:=.r0 f58_r2
def f58_r3:List MO:=[Qa (Qv 13) (Qd (Qn 5)),Qa (Qv 14) (MOp.build [(Qr Qu 0)] [(0,(1,(Qn 13)))]),Qa (Qv 15) (MOp.mkI 133 (Qn 14)),Qa (Qv 2) (Qd (Qo (Qp (Qq D.nilP)))),Qa (Qv 3) (Qd (Qn 15))]
def f58_c3:MC:=.r0 f58_r3
def f58_r9:List MO:=[Qa (Qv 16) (Qf 2 true (Qn 1)),Qa (Qv 17) (Qd (Qn 4)),Qa (Qv 18) (MOp.build [(Qr Qu 0),(D.sl []),(D.sl [])] [(0,(2,(Qn 16))),(2,(1,(Qn 17)))]),Qa (Qv 19) (MOp.ibox (Qn 18)),Qa (Qv 2) (Qd (Qn 19)),Qa (Qv 3) (Qd (Qo (Qp (Qq D.nilI))))]
def f58_c9:MC:=.r0 f58_r9
def f58_c13:MC:=.seq f58_c1 (.seq (.seq f58_c2 (.cond (Qn 12) (.seq f58_c3 .ret) .skip)) (.seq f58_c9 .ret))
def f58_c14:MC:=.seq f58_c0 f58_c13
attribute [go_sem] f58_r0 f58_r1 f58_r2 f58_r3 f58_r9
theorem f58_k : KK QP 58 f58 [1,19] f58_c14 [(RV.t 2),(RV.t 3)] 20 := ⟨func58,by kernel_rfl,by kernel_rfl,by kernel_rfl,by kernel_rfl⟩
theorem f58_ok : callable QP 58 = true := by kernel_rfl
theorem f58_in (h : GI QP gp [(RV.t 2),(RV.t 3)] res 20 f58_c14 args) : Does QP gp 58 args res := f58_k.i f58_ok h
def f59_r0:List MO:=[Qa (Qv 2) (Qd (Qo (Qp (Qq (Qr Qu 0)))))]
def f59_c0:MC:=.r0 f59_r0
def f59_r1:List MO:=[Qa (Qv 3) (MOp.alloc [(Qr Qu 0)])]
def f59_c1:MC:=.r0 f59_r1
def f59_r2:List MO:=[Qa (Qv 4) (Qd (Qn 0)),Qa (Qv 5) (MOp.mkI 135 (Qn 3)),Qa (Qv 6) (Qh 91 [(Qn 4),(Qn 5)])]
def f59_c2:MC:=.r0 f59_r2
def f59_r3:List MO:=[Qa (Qv 7) (Qg 0 (Qn 3)),Qa (Qv 8) (Qf 1 false (Qn 7)),Qa (Qv 2) (Qd (Qn 8))]
def f59_c3:MC:=.r0 f59_r3
def f59_r9:List MO:=[Qa (Qv 2) (Qd (Qo (Qp (Qq (Qr Qu 0)))))]
def f59_c9:MC:=.r0 f59_r9
def f59_c13:MC:=.seq f59_c1 (.seq (.seq f59_c2 (.cond (Qn 6) (.seq f59_c3 .ret) .skip)) (.seq f59_c9 .ret))
def f59_c14:MC:=.seq f59_c0 f59_c13
attribute [go_sem] f59_r0 f59_r1 f59_r2 f59_r3 f59_r9
theorem f59_k : KK QP 59 f59 [] f59_c14 [(RV.t 2)] 9 := ⟨func59,by kernel_rfl,by kernel_rfl,by kernel_rfl,by kernel_rfl⟩
theorem f59_ok : callable QP 59 = true := by kernel_rfl
theorem f59_in (h : GI QP gp [(RV.t 2)] res 9 f59_c14 args) : Does QP gp 59 args res := f59_k.i f59_ok h
def f60_r0:List MO:=[Qa (Qv 1) (MOp.ibox (Qn 0)),Qa (Qv 2) (MOp.alloc [(Qr Qu 0),(D.sl [])])]
def f60_c0:MC:=.r0 f60_r0
def f60_r1:List MO:=[Qa (Qv 10) (Qf 1 false (Qn 1)),Qa (Qv 11) (MOp.nck (Qn 10)),Qa (Qv 12) (Qg 2 (Qn 11)),Qa (Qv 13) (Qf 1 false (Qn 12)),Qa (Qv 14) (Qf 1 false (Qn 1)),Qa (Qv 15) (MOp.nck (Qn 14)),Qa (Qv 16) (Qg 0 (Qn 15)),Qa (Qv 17) (Qg 0 (Qn 16)),Qa (Qv 18) (Qf 1 false (Qn 17)),Qa (Qv 19) (Qj 1 (Qn 13) (Qn 18)),Qa (Qv 20) (Qf 1 false (Qn 19)),Qa (Qv 21) (MOp.build [(Qr Qu 0),(D.sl [])] [(0,(1,(Qn 20)))]),Qa (Qv 3) (MOp.alloc [(Qr Qu 0),(D.sl [])]),Qa none (Ql 2 (Qn 3) (Qn 21))]
def f60_c1:MC:=.reg true f60_r1
def f60_r2:List MO:=[Qa (Qv 22) (Qf 1 false (Qn 1)),Qa (Qv 23) (Qh 92 [(Qn 22)])]
def f60_c2:MC:=.r0 f60_r2
def f60_r3:List MO:=[Qa (Qv 5) (Qd (Qn 25))]
def f60_c3:MC:=.r0 f60_r3
def f60_r4:List MO:=[Qa (Qv 27) (Qf 1 false (Qn 1)),Qa (Qv 28) (MOp.nck (Qn 27)),Qa (Qv 29) (Qg 0 (Qn 28)),Qa (Qv 30) (Qf 2 true (Qn 29)),Qa (Qv 31) (Qd (Qn 5)),Qa (Qv 32) (Qh 74 [(Qn 30),(Qn 31)]),Qa (Qv 26) (Qd (Qn 32)),Qa (Qv 33) (Qi (Qn 26) 0),Qa (Qv 34) (Qi (Qn 26) 1),Qa (Qv 6) (Qd (Qn 33)),Qa (Qv 7) (Qd (Qn 34))]
def f60_c4:MC:=.r0 f60_r4
def f60_r5:List MO:=[Qa (Qv 36) (Qf 1 false (Qn 1)),Qa (Qv 37) (MOp.nck (Qn 36)),Qa (Qv 38) (Qg 0 (Qn 37)),Qa (Qv 39) (Qf 2 true (Qn 38)),Qa (Qv 40) (Qd (Qn 5)),Qa (Qv 41) (Qh 25 [(Qn 39),(Qn 40)]),Qa (Qv 35) (Qd (Qn 41)),Qa (Qv 42) (Qi (Qn 35) 0),Qa (Qv 43) (Qi (Qn 35) 1),Qa (Qv 8) (Qd (Qn 42)),Qa (Qv 9) (Qd (Qn 43))]
def f60_c5:MC:=.r0 f60_r5
def f60_r6:List MO:=[Qa (Qv 44) (Qg 1 (Qn 3)),Qa (Qv 45) (Qf 1 false (Qn 44)),Qa (Qv 46) (Qf 1 false (Qn 1)),Qa (Qv 47) (MOp.nck (Qn 46)),Qa (Qv 48) (Qg 0 (Qn 47)),Qa (Qv 49) (Qg 1 (Qn 48)),Qa (Qv 50) (Qf 1 false (Qn 49)),Qa (Qv 51) (Qd (Qn 5)),Qa (Qv 52) (Qj 6 (Qn 50) (Qn 51)),Qa (Qv 53) (Qg 0 (Qn 52)),Qa (Qv 54) (Qf 1 false (Qn 53)),Qa (Qv 55) (Qf 1 false (Qn 1)),Qa (Qv 56) (MOp.nck (Qn 55)),Qa (Qv 57) (Qg 0 (Qn 56)),Qa (Qv 58) (Qg 1 (Qn 57)),Qa (Qv 59) (Qf 1 false (Qn 58)),Qa (Qv 60) (Qd (Qn 5)),Qa (Qv 61) (Qj 6 (Qn 59) (Qn 60)),Qa (Qv 62) (Qg 1 (Qn 61)),Qa (Qv 63) (Qf 3 true (Qn 62)),Qa (Qv 64) (Qd (Qn 6)),Qa (Qv 65) (Qf 1 false (Qn 1)),Qa (Qv 66) (Qd (Qn 8)),Qa (Qv 67) (Qh 93 [(Qn 65),(Qn 66)]),Qa (Qv 68) (MOp.build [(Qr Qu 0),(Qr Qu 0),(Qr Qu 0),(D.str (ByteArray.mk #[])),(D.sl []),(D.sl [])] [(0,(1,(Qn 54))),(1,(3,(Qn 63))),(4,(1,(Qn 64))),(5,(1,(Qn 67)))]),Qa (Qv 69) (MOp.bslice 6 [(Qr Qu 0),(Qr Qu 0),(Qr Qu 0),(D.str (ByteArray.mk #[])),(D.sl []),(D.sl [])] 1 [(0,(Qn 68))]),Qa (Qv 70) (MOp.app 44 6 88 (Qn 45) (Qn 69)),Qa (Qv 71) (Qg 1 (Qn 3)),Qa none (Ql 1 (Qn 71) (Qn 70))]
def f60_c6:MC:=.reg true f60_r6
def f60_c10:MC:=.rf (Qn 23) [24,25] f60_c3 (.blk 1 (.seq f60_c4 (.seq f60_c5 f60_c6)))
def f60_r13:List MO:=[Qa (Qv 72) (Qf 2 true (Qn 3)),Qa none (Ql 2 (Qn 2) (Qn 72))]
def f60_c13:MC:=.r0 f60_r13
def f60_c17:MC:=.seq f60_c1 (.seq (.seq f60_c2 (.blk 0 f60_c10)) (.seq f60_c13 .ret))
def f60_c18:MC:=.seq f60_c0 f60_c17
attribute [go_sem] f60_r0 f60_r1 f60_r2 f60_r3 f60_r4 f60_r5 f60_r6 f60_r13
theorem f60_k : KK QP 60 f60 [1] f60_c18 [(RV.cell 2 2 true)] 73 := ⟨func60,by kernel_rfl,by kernel_rfl,by kernel_rfl,by kernel_rfl⟩
theorem f60_ok : callable QP 60 = true := by kernel_rfl
theorem f60_in (h : GI QP gp [(RV.cell 2 2 true)] res 73 f60_c18 args) : Does QP gp 60 args res := f60_k.i f60_ok h
def f92_r0:List MO:=[Qa (Qv 1) (MOp.ibox (Qn 0)),Qa (Qv 2) (Qd (Qo (Qp (Qq D.nilF))))]
def f92_c0:MC:=.r0 f92_r0
def f92_r1:List MO:=[Qa (Qv 3) (MOp.mkF (Go.Fn.func 117) [(Qn 1)]),Qa (Qv 2) (Qd (Qn 3))]
def f92_c1:MC:=.r0 f92_r1
def f92_c4:MC:=.seq f92_c0 (.seq f92_c1 .ret)
attribute [go_sem] f92_r0 f92_r1
theorem f92_k : KK QP 92 f92 [1] f92_c4 [(RV.t 2)] 4 := ⟨func92,by kernel_rfl,by kernel_rfl,by kernel_rfl,by kernel_rfl⟩
theorem f92_ok : callable QP 92 = true := by kernel_rfl
theorem f92_in (h : GI QP gp [(RV.t 2)] res 4 f92_c4 args) : Does QP gp 92 args res := f92_k.i f92_ok h
def f93_r0:List MO:=[Qa (Qv 4) (Qd (Qo (Qp A.nil)))]
def f93_c0:MC:=.r0 f93_r0
def f93_r1:List MO:=[Qa (Qv 5) (Qd (Qo (Qp A.nil)))]
def f93_c1:MC:=.r0 f93_r1
def f93_r2:List MO:=[Qa (Qv 8) (Qd (Qn 1)),Qa (Qv 9) (Qk Qt (Qn 8)),Qa (Qv 10) (Qd (Qo (Qp (Qq (Qr Qu 0)))))]
def f93_c2:MC:=.r0 f93_r2
def f93_r3:List MO:=[Qa (Qv 11) (Qe Qt Go.BinOp.lss (Qn 10) (Qn 9))]
def f93_c3:MC:=.r0 f93_r3
def f93_r7:List MO:=[Qa (Qv 12) (Qj 1 (Qn 8) (Qn 10)),Qa (Qv 13) (Qf 1 false (Qn 12)),Qa (Qv 7) (Qd (Qn 13))]
def f93_c7:MC:=.r0 f93_r7
def f93_r8:List MO:=[Qa (Qv 14) (Qd (Qn 5)),Qa (Qv 15) (Qd (Qn 0)),Qa (Qv 16) (MOp.nck (Qn 15)),Qa (Qv 17) (Qg 2 (Qn 16)),Qa (Qv 18) (Qf 1 false (Qn 17)),Qa (Qv 19) (Qd (Qn 7)),Qa (Qv 20) (Qj 1 (Qn 18) (Qn 19)),Qa (Qv 21) (Qf 1 false (Qn 20)),Qa (Qv 22) (MOp.bslice 1 [(Qr Qu 0)] 1 [(0,(Qn 21))]),Qa (Qv 23) (MOp.app 3 1 8 (Qn 14) (Qn 22)),Qa (Qv 5) (Qd (Qn 23))]
def f93_c8:MC:=.r0 f93_r8
def f93_r11:List MO:=[Qa (Qv 24) (Qe Qt Go.BinOp.add (Qn 10) (Qo (Qp (Qq (Qr Qu 1))))),Qa (Qv 10) (Qd (Qn 24))]
def f93_c11:MC:=.r0 f93_r11
def f93_c14:MC:=.seq f93_c3 (.seq (.cond (Qn 11) .skip (MC.exit 0)) (.seq (.blk 1 (.seq f93_c7 f93_c8)) f93_c11))
def f93_r18:List MO:=[Qa (Qv 25) (Qd (Qn 5)),Qa (Qv 4) (Qd (Qn 25))]
def f93_c18:MC:=.r0 f93_r18
def f93_c22:MC:=.seq f93_c1 (.seq (.seq f93_c2 (.blk 0 (.loop f93_c14))) (.seq f93_c18 .ret))
def f93_c23:MC:=.seq f93_c0 f93_c22
theorem f93_k : KK QP 93 f93 [] f93_c23 [(RV.t 4)] 26 := ⟨func93,by kernel_rfl,by kernel_rfl,by kernel_rfl,by kernel_rfl⟩
theorem f93_ok : callable QP 93 = true := by kernel_rfl
theorem f93_in (h : GI QP gp [(RV.t 4)] res 26 f93_c23 args) : Does QP gp 93 args res := f93_k.i f93_ok h
def f117_r0:List MO:=[Qa (Qv 6) MOp.mkM,Qa (Qv 3) (Qd (Qn 6))]
def f117_c0:MC:=.r0 f117_r0
def f117_r2:List MO:=[Qa (Qv 7) (Qf 1 false (Qn 1)),Qa (Qv 8) (MOp.nck (Qn 7)),Qa (Qv 9) (Qg 2 (Qn 8)),Qa (Qv 10) (Qf 1 false (Qn 9)),Qa (Qv 11) (Qk Qt (Qn 10)),Qa (Qv 12) (Qd (Qo (Qp (Qq (Qr Qu 0)))))]
def f117_c2:MC:=.r0 f117_r2
def f117_r3:List MO:=[Qa (Qv 13) (Qe Qt Go.BinOp.lss (Qn 12) (Qn 11))]
def f117_c3:MC:=.r0 f117_r3
def f117_r7:List MO:=[Qa (Qv 14) (Qd (Qn 12)),Qa (Qv 15) (Qj 1 (Qn 10) (Qn 12)),Qa (Qv 16) (Qf 1 false (Qn 15)),Qa (Qv 4) (Qd (Qn 14)),Qa (Qv 5) (Qd (Qn 16))]
def f117_c7:MC:=.r0 f117_r7
def f117_r8:List MO:=[Qa (Qv 17) (Qd (Qn 3)),Qa (Qv 18) (Qd (Qn 5)),Qa (Qv 19) (MOp.lkp false (Qp (Qq (Qs false))) false [Qt] (Qn 17) (Qn 18))]
def f117_c8:MC:=.r0 f117_r8
def f117_r13:List MO:=[Qa (Qv 20) (Qd (Qn 3)),Qa (Qv 21) (Qd (Qn 5)),Qa none (MOp.mupd false [Qt] (Qn 20) (Qn 21) (Qo (Qp (Qq (Qs true)))))]
def f117_c13:MC:=.r0 f117_r13
def f117_r14:List MO:=[Qa (Qv 22) (Qd (Qn 0)),Qa (Qv 23) (Qd (Qn 5)),Qa (Qv 24) (Qd (Qn 4)),Qa (Qv 25) (MOp.callv (Qn 22) [(Qn 23),(Qn 24)]),Qa (Qv 26) (MOp.not (Qn 25))]
def f117_c14:MC:=.r0 f117_r14
def f117_c21:MC:=.seq f117_c7 (.seq (.seq f117_c8 (.cond (Qn 19) (MC.exit 1) .skip)) (.seq f117_c13 (.seq f117_c14 (.cond (Qn 26) (MC.exit 0) .skip))))
def f117_r23:List MO:=[Qa (Qv 27) (Qe Qt Go.BinOp.add (Qn 12) (Qo (Qp (Qq (Qr Qu 1))))),Qa (Qv 12) (Qd (Qn 27))]
def f117_c23:MC:=.r0 f117_r23
def f117_c29:MC:=.seq f117_c2 (.blk 0 (.loop (.seq f117_c3 (.seq (.cond (Qn 13) .skip (MC.exit 0)) (.seq (.blk 1 f117_c21) f117_c23)))))
def f117_c32:MC:=.scope (.seq f117_c0 (.seq .skip f117_c29))
attribute [go_sem] f117_r0 f117_r2 f117_r3 f117_r7 f117_r8 f117_r13 f117_r14 f117_r23
theorem f117_k : KK QP 117 f117 [] f117_c32 [] 28 := ⟨func117,by kernel_rfl,by kernel_rfl,by kernel_rfl,by kernel_rfl⟩
theorem f117_ok : callable QP 117 = true := by kernel_rfl
theorem f117_tri (h : GT QP gp [] pre R 28 f117_c32 args) : Tri QP gp 117 args pre R := f117_k.t h
end Go.Fw.L07
