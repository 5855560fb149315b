/- Small codes. -/
import Derived.Test.YtejnfjophhnaeaaGreatDoorFd
import Derived.Test.YtejnfjophhnaeaaGreatDoorProg
set_option linter.all false
namespace Go.Fw.L07
open Go Go.Fw
open Go.Proofs.Tryz renaming prog -> QP
open Go.Proofs.Tryz (f12 f125 f14 f16 f18 f37 f38 f41 f43 f45 f71 f73 f74 f75 f8 f97 func12 func125 func14 func16 func18 func37 func38 func41 func43 func45 func71 func73 func74 func75 func8 func97)
open Go.Fw.MO renaming op -> Qa,chk -> Qb,opx -> Qc
open Go.Fw.MOp renaming mv -> Qd,bin -> Qe,load -> Qf,fad -> Qg,call -> Qh,ext -> Qi,iad -> Qj,len -> Qk,store -> Ql,pick -> Qm
open Go.Fw.Opd renaming t -> Qn,c -> Qo
open Go.Fw.V renaming one -> Qp
open Go.Fw.A renaming d -> Qq
open Go.Fw.D renaming int -> Qr,bool -> Qs
open Go.Fw.Leaf renaming i -> Qt
open Go.IntKind renaming i64 -> Qu
open Option renaming some -> Qv
variable {gp : Heap} {args : List V} {res : V} {pre : List Ch} {R : V -> List Ch -> Prop}
def f8_r0:List MO:=[Qa (Qv 3) (MOp.box (Qn 0)),Qa (Qv 4) (MOp.box (Qn 1)),Qa (Qv 6) (Qd (Qo (Qp (Qq (Qs false)))))]
def f8_c0:MC:=.r0 f8_r0
def f8_r1:List MO:=[Qa (Qv 16) (Qh 12 []),Qa (Qv 7) (Qd (Qn 16))]
def f8_c1:MC:=.r0 f8_r1
def f8_r2:List MO:=[Qa (Qv 17) (Qf 2 true (Qn 3)),Qa (Qv 18) (Qh 13 [(Qn 17),(Qo (Qp (Qq (Qr Qu 30))))]),Qa none (Ql 2 (Qn 3) (Qn 18))]
def f8_c2:MC:=.r0 f8_r2
def f8_r3:List MO:=[Qa (Qv 19) (Qf 2 true (Qn 4)),Qa (Qv 20) (Qh 13 [(Qn 19),(Qo (Qp (Qq (Qr Qu 30))))]),Qa none (Ql 2 (Qn 4) (Qn 20))]
def f8_c3:MC:=.r0 f8_r3
def f8_r4:List MO:=[Qa (Qv 21) (Qd (Qn 2)),Qa (Qv 22) (Qd (Qn 2)),Qa (Qv 23) (Qk Qt (Qn 22)),Qa (Qv 24) (MOp.min (Qn 23) (Qo (Qp (Qq (Qr Qu 30))))),Qa (Qv 25) (MOp.slc 1 (Qn 21) none (Qv (Qn 24))),Qa (Qv 2) (Qd (Qn 25))]
def f8_c4:MC:=.r0 f8_r4
def f8_r5:List MO:=[Qa (Qv 27) (Qf 2 true (Qn 3)),Qa (Qv 28) (Qf 2 true (Qn 4)),Qa (Qv 29) (Qh 16 [(Qn 27),(Qn 28)]),Qa (Qv 26) (Qd (Qn 29)),Qa (Qv 30) (Qi (Qn 26) 0),Qa (Qv 31) (Qi (Qn 26) 1),Qa (Qv 8) (Qd (Qn 30)),Qa (Qv 9) (Qd (Qn 31))]
def f8_c5:MC:=.r0 f8_r5
def f8_r6:List MO:=[Qa (Qv 33) (Qf 2 true (Qn 3)),Qa (Qv 34) (Qd (Qn 2)),Qa (Qv 35) (Qh 23 [(Qn 33),(Qn 34)]),Qa (Qv 32) (Qd (Qn 35)),Qa (Qv 36) (Qi (Qn 32) 0),Qa (Qv 37) (Qi (Qn 32) 1),Qa (Qv 10) (Qd (Qn 36)),Qa (Qv 11) (Qd (Qn 37))]
def f8_c6:MC:=.r0 f8_r6
def f8_r7:List MO:=[Qa (Qv 39) (Qf 2 true (Qn 4)),Qa (Qv 40) (Qd (Qn 2)),Qa (Qv 41) (Qh 23 [(Qn 39),(Qn 40)]),Qa (Qv 38) (Qd (Qn 41)),Qa (Qv 42) (Qi (Qn 38) 0),Qa (Qv 43) (Qi (Qn 38) 1),Qa (Qv 12) (Qd (Qn 42)),Qa (Qv 13) (Qd (Qn 43))]
def f8_c7:MC:=.r0 f8_r7
def f8_r8:List MO:=[Qa (Qv 44) (Qd (Qn 9)),Qa (Qv 45) (Qe Qt Go.BinOp.neq (Qn 44) (Qo (Qp (Qq (Qr Qu 0))))),Qa (Qv 46) (Qd (Qn 45)),Qb 46 false (Qv 47),Qa (Qv 47) (Qd (Qn 8)),Qb 46 false (Qv 48),Qa (Qv 48) (MOp.not (Qn 47)),Qa (Qv 49) (Qm (Qn 46) (Qo (Qp (Qq (Qs true)))) (Qn 48)),Qa (Qv 50) (Qd (Qn 49)),Qb 50 false (Qv 51),Qa (Qv 51) (Qd (Qn 11)),Qb 50 false (Qv 52),Qa (Qv 52) (MOp.not (Qn 51)),Qa (Qv 53) (Qm (Qn 50) (Qo (Qp (Qq (Qs true)))) (Qn 52)),Qa (Qv 54) (Qd (Qn 53)),Qb 54 false (Qv 55),Qa (Qv 55) (Qd (Qn 13)),Qb 54 false (Qv 56),Qa (Qv 56) (MOp.not (Qn 55)),Qa (Qv 57) (Qm (Qn 54) (Qo (Qp (Qq (Qs true)))) (Qn 56))]
def f8_c8:MC:=.r0 f8_r8
def f8_r9:List MO:=[Qa (Qv 58) (Qd (Qn 7)),Qa (Qv 59) (Qd (Qn 58)),Qb 59 true (Qv 60),Qa (Qv 60) (Qd (Qn 9)),Qb 59 true (Qv 61),Qa (Qv 61) (Qe Qt Go.BinOp.neq (Qn 60) (Qo (Qp (Qq (Qr Qu 0))))),Qb 59 true (Qv 62),Qa (Qv 62) (Qd (Qn 61)),Qb 62 false (Qv 63),Qa (Qv 63) (Qd (Qn 8)),Qb 62 false (Qv 64),Qa (Qv 64) (MOp.not (Qn 63)),Qb 59 true (Qv 65),Qa (Qv 65) (Qm (Qn 62) (Qo (Qp (Qq (Qs true)))) (Qn 64)),Qb 59 true (Qv 66),Qa (Qv 66) (Qd (Qn 65)),Qb 66 false (Qv 67),Qa (Qv 67) (Qd (Qn 11)),Qb 66 false (Qv 68),Qa (Qv 68) (Qd (Qn 13)),Qb 66 false (Qv 69),Qa (Qv 69) (Qe Leaf.b Go.BinOp.eql (Qn 67) (Qn 68)),Qb 59 true (Qv 70),Qa (Qv 70) (Qm (Qn 66) (Qo (Qp (Qq (Qs true)))) (Qn 69)),Qa (Qv 71) (Qm (Qn 59) (Qn 70) (Qo (Qp (Qq (Qs false))))),Qa (Qv 6) (Qd (Qn 71))]
def f8_c9:MC:=.r0 f8_r9
def f8_r15:List MO:=[Qa (Qv 73) (Qd (Qn 10)),Qa (Qv 74) (Qg 1 (Qn 3)),Qa (Qv 75) (Qf 1 false (Qn 74)),Qa (Qv 76) (MOp.build [(Qr Qu 0),(D.sl [])] [(0,(1,(Qn 73))),(1,(1,(Qn 75)))]),Qa (Qv 77) (Qd (Qn 12)),Qa (Qv 78) (Qg 1 (Qn 4)),Qa (Qv 79) (Qf 1 false (Qn 78)),Qa (Qv 80) (MOp.build [(Qr Qu 0),(D.sl [])] [(0,(1,(Qn 77))),(1,(1,(Qn 79)))]),Qa (Qv 81) (Qh 16 [(Qn 76),(Qn 80)]),Qa (Qv 72) (Qd (Qn 81)),Qa (Qv 82) (Qi (Qn 72) 0),Qa (Qv 83) (Qi (Qn 72) 1),Qa (Qv 14) (Qd (Qn 82)),Qa (Qv 15) (Qd (Qn 83))]
def f8_c15:MC:=.r0 f8_r15
def f8_r16:List MO:=[Qa (Qv 84) (Qd (Qn 7)),Qa (Qv 85) (Qd (Qn 84)),Qb 85 true (Qv 86),Qa (Qv 86) (Qd (Qn 14)),Qa (Qv 87) (Qm (Qn 85) (Qn 86) (Qo (Qp (Qq (Qs false))))),Qa (Qv 88) (Qd (Qn 87)),Qb 88 true (Qv 89),Qa (Qv 89) (Qd (Qn 15)),Qb 88 true (Qv 90),Qa (Qv 90) (Qe Qt Go.BinOp.eql (Qn 89) (Qo (Qp (Qq (Qr Qu 0))))),Qa (Qv 91) (Qm (Qn 88) (Qn 90) (Qo (Qp (Qq (Qs false))))),Qa (Qv 6) (Qd (Qn 91))]
def f8_c16:MC:=.r0 f8_r16
def f8_c20:MC:=.seq (.seq f8_c8 (.cond (Qn 57) (.seq f8_c9 .ret) .skip)) (.seq f8_c15 (.seq f8_c16 .ret))
def f8_c23:MC:=.seq f8_c5 (.seq f8_c6 (.seq f8_c7 f8_c20))
def f8_c26:MC:=.seq f8_c2 (.seq f8_c3 (.seq f8_c4 f8_c23))
def f8_c28:MC:=.seq f8_c0 (.seq f8_c1 f8_c26)
attribute [go_sem] f8_r0 f8_r1 f8_r2 f8_r3 f8_r4 f8_r5 f8_r6 f8_r7 f8_r8 f8_r9 f8_r15 f8_r16
theorem f8_k : KK QP 8 f8 [] f8_c28 [(RV.t 6)] 92 := by refine ⟨func8,?_,?_,?_,?_⟩<;>kernel_rfl
theorem f8_ok : callable QP 8 = true := by kernel_rfl
theorem f8_in (h : GI QP gp [(RV.t 6)] res 92 f8_c28 args) : Does QP gp 8 args res := f8_k.i f8_ok h
def f12_r0:List MO:=[Qa (Qv 0) (Qd (Qo (Qp (Qq (Qs false)))))]
def f12_c0:MC:=.r0 f12_r0
def f12_r1:List MO:=[Qa (Qv 12) (MOp.bslice 1 [(Qr Qu 0)] 1 [(0,(Qo (Qp (Qq (Qr Qu 1)))))]),Qa (Qv 13) (MOp.build [(Qr Qu 0),(Qr Qu 0),(Qr Qu 0),(D.str (ByteArray.mk #[])),(D.sl []),(D.sl [])] [(0,(1,(Qo (Qp (Qq (Qr Qu 1)))))),(5,(1,(Qn 12)))]),Qa (Qv 14) (MOp.bslice 1 [(Qr Qu 0)] 1 [(0,(Qo (Qp (Qq (Qr Qu 0)))))]),Qa (Qv 15) (MOp.build [(Qr Qu 0),(Qr Qu 0),(Qr Qu 0),(D.str (ByteArray.mk #[])),(D.sl []),(D.sl [])] [(0,(1,(Qo (Qp (Qq (Qr Qu 1)))))),(5,(1,(Qn 14)))]),Qa (Qv 16) (MOp.bslice 1 [(Qr Qu 0)] 1 [(0,(Qo (Qp (Qq (Qr Qu 2)))))]),Qa (Qv 17) (MOp.build [(Qr Qu 0),(Qr Qu 0),(Qr Qu 0),(D.str (ByteArray.mk #[])),(D.sl []),(D.sl [])] [(0,(1,(Qo (Qp (Qq (Qr Qu 1)))))),(5,(1,(Qn 16)))]),Qa (Qv 18) (MOp.build [(Qr Qu 0),(Qr Qu 0),(Qr Qu 0),(D.str (ByteArray.mk #[])),(D.sl []),(D.sl [])] [(0,(1,(Qo (Qp (Qq (Qr Qu 1))))))]),Qa (Qv 19) (MOp.bslice 6 [(Qr Qu 0),(Qr Qu 0),(Qr Qu 0),(D.str (ByteArray.mk #[])),(D.sl []),(D.sl [])] 4 [(0,(Qn 13)),(1,(Qn 15)),(2,(Qn 17)),(3,(Qn 18))]),Qa (Qv 20) (MOp.build [(Qr Qu 0),(D.sl [])] [(1,(1,(Qn 19)))]),Qa (Qv 1) (MOp.alloc [(Qr Qu 0),(D.sl [])]),Qa none (Ql 2 (Qn 1) (Qn 20))]
def f12_c1:MC:=.r0 f12_r1
def f12_r2:List MO:=[Qa (Qv 22) (Qf 2 true (Qn 1)),Qa (Qv 23) (Qh 14 [(Qn 22)]),Qa (Qv 21) (Qd (Qn 23)),Qa (Qv 24) (Qi (Qn 21) 0),Qa (Qv 25) (Qi (Qn 21) 1),Qa (Qv 2) (Qd (Qn 24)),Qa (Qv 3) (Qd (Qn 25))]
def f12_c2:MC:=.r0 f12_r2
def f12_r3:List MO:=[Qa (Qv 27) (Qf 2 true (Qn 1)),Qa (Qv 28) (MOp.bslice 1 [(Qr Qu 0)] 1 [(0,(Qo (Qp (Qq (Qr Qu 0)))))]),Qa (Qv 29) (MOp.build [(Qr Qu 0),(Qr Qu 0),(Qr Qu 0),(D.str (ByteArray.mk #[])),(D.sl []),(D.sl [])] [(0,(1,(Qo (Qp (Qq (Qr Qu 1)))))),(5,(1,(Qn 28)))]),Qa (Qv 30) (MOp.bslice 6 [(Qr Qu 0),(Qr Qu 0),(Qr Qu 0),(D.str (ByteArray.mk #[])),(D.sl []),(D.sl [])] 1 [(0,(Qn 29))]),Qa (Qv 31) (MOp.build [(Qr Qu 0),(D.sl [])] [(1,(1,(Qn 30)))]),Qa (Qv 32) (Qh 16 [(Qn 27),(Qn 31)]),Qa (Qv 26) (Qd (Qn 32)),Qa (Qv 33) (Qi (Qn 26) 0),Qa (Qv 34) (Qi (Qn 26) 1),Qa (Qv 4) (Qd (Qn 33)),Qa (Qv 5) (Qd (Qn 34))]
def f12_c3:MC:=.r0 f12_r3
def f12_r4:List MO:=[Qa (Qv 36) (Qf 2 true (Qn 1)),Qa (Qv 37) (MOp.build [(Qr Qu 0),(Qr Qu 0),(Qr Qu 0),(D.str (ByteArray.mk #[])),(D.sl []),(D.sl [])] [(0,(1,(Qo (Qp (Qq (Qr Qu 1))))))]),Qa (Qv 38) (MOp.bslice 6 [(Qr Qu 0),(Qr Qu 0),(Qr Qu 0),(D.str (ByteArray.mk #[])),(D.sl []),(D.sl [])] 1 [(0,(Qn 37))]),Qa (Qv 39) (MOp.build [(Qr Qu 0),(D.sl [])] [(1,(1,(Qn 38)))]),Qa (Qv 40) (Qh 16 [(Qn 36),(Qn 39)]),Qa (Qv 35) (Qd (Qn 40)),Qa (Qv 41) (Qi (Qn 35) 0),Qa (Qv 42) (Qi (Qn 35) 1),Qa (Qv 6) (Qd (Qn 41)),Qa (Qv 7) (Qd (Qn 42))]
def f12_c4:MC:=.r0 f12_r4
def f12_r5:List MO:=[Qa (Qv 44) (Qf 2 true (Qn 1)),Qa (Qv 45) (Qh 18 [(Qn 44),(Qo (Qp (Qq (Qr Qu 0)))),(Qo (Qp (Qq (Qr Qu 3))))]),Qa (Qv 43) (Qd (Qn 45)),Qa (Qv 46) (Qi (Qn 43) 0),Qa (Qv 47) (Qi (Qn 43) 1),Qa (Qv 8) (Qd (Qn 46)),Qa (Qv 9) (Qd (Qn 47))]
def f12_c5:MC:=.r0 f12_r5
def f12_r6:List MO:=[Qa (Qv 49) (MOp.build [(Qr Qu 0),(D.sl [])] []),Qa (Qv 50) (Qh 14 [(Qn 49)]),Qa (Qv 48) (Qd (Qn 50)),Qa (Qv 51) (Qi (Qn 48) 0),Qa (Qv 52) (Qi (Qn 48) 1),Qa (Qv 10) (Qd (Qn 51)),Qa (Qv 11) (Qd (Qn 52))]
def f12_c6:MC:=.r0 f12_r6
def f12_r7:List MO:=[Qa (Qv 53) (Qd (Qn 3)),Qa (Qv 54) (Qe Qt Go.BinOp.eql (Qn 53) (Qo (Qp (Qq (Qr Qu 0))))),Qa (Qv 55) (Qd (Qn 54)),Qb 55 true (Qv 56),Qa (Qv 56) (Qd (Qn 2)),Qb 55 true (Qv 57),Qa (Qv 57) (MOp.bslice 1 [(Qr Qu 0)] 4 [(0,(Qo (Qp (Qq (Qr Qu 0))))),(1,(Qo (Qp (Qq (Qr Qu 0))))),(2,(Qo (Qp (Qq (Qr Qu 0))))),(3,(Qo (Qp (Qq (Qr Qu 1)))))]),Qb 55 true (Qv 58),Qa (Qv 58) (Qh 20 [(Qn 56),(Qn 57)]),Qa (Qv 59) (Qm (Qn 55) (Qn 58) (Qo (Qp (Qq (Qs false))))),Qa (Qv 60) (Qd (Qn 59)),Qb 60 true (Qv 61),Qa (Qv 61) (Qd (Qn 4)),Qa (Qv 62) (Qm (Qn 60) (Qn 61) (Qo (Qp (Qq (Qs false))))),Qa (Qv 63) (Qd (Qn 62)),Qb 63 true (Qv 64),Qa (Qv 64) (Qd (Qn 5)),Qb 63 true (Qv 65),Qa (Qv 65) (Qe Qt Go.BinOp.eql (Qn 64) (Qo (Qp (Qq (Qr Qu 0))))),Qa (Qv 66) (Qm (Qn 63) (Qn 65) (Qo (Qp (Qq (Qs false))))),Qa (Qv 67) (Qd (Qn 66)),Qb 67 true (Qv 68),Qa (Qv 68) (Qd (Qn 6)),Qb 67 true (Qv 69),Qa (Qv 69) (MOp.not (Qn 68)),Qa (Qv 70) (Qm (Qn 67) (Qn 69) (Qo (Qp (Qq (Qs false))))),Qa (Qv 71) (Qd (Qn 70)),Qb 71 true (Qv 72),Qa (Qv 72) (Qd (Qn 7)),Qb 71 true (Qv 73),Qa (Qv 73) (Qe Qt Go.BinOp.eql (Qn 72) (Qo (Qp (Qq (Qr Qu 0))))),Qa (Qv 74) (Qm (Qn 71) (Qn 73) (Qo (Qp (Qq (Qs false))))),Qa (Qv 75) (Qd (Qn 74)),Qb 75 true (Qv 76),Qa (Qv 76) (Qd (Qn 8)),Qb 75 true (Qv 77),Qa (Qv 77) (Qk Qt (Qn 76)),Qb 75 true (Qv 78),Qa (Qv 78) (Qe Qt Go.BinOp.eql (Qn 77) (Qo (Qp (Qq (Qr Qu 0))))),Qa (Qv 79) (Qm (Qn 75) (Qn 78) (Qo (Qp (Qq (Qs false))))),Qa (Qv 80) (Qd (Qn 79)),Qb 80 true (Qv 81),Qa (Qv 81) (Qd (Qn 9)),Qa (Qv 82) (Qm (Qn 80) (Qn 81) (Qo (Qp (Qq (Qs false))))),Qa (Qv 83) (Qd (Qn 82)),Qb 83 true (Qv 84),Qa (Qv 84) (Qd (Qn 11)),Qb 83 true (Qv 85),Qa (Qv 85) (Qe Qt Go.BinOp.eql (Qn 84) (Qo (Qp (Qq (Qr Qu 70))))),Qa (Qv 86) (Qm (Qn 83) (Qn 85) (Qo (Qp (Qq (Qs false))))),Qa (Qv 0) (Qd (Qn 86))]
def f12_c7:MC:=.r0 f12_r7
def f12_c12:MC:=.seq f12_c4 (.seq f12_c5 (.seq f12_c6 (.seq f12_c7 .ret)))
def f12_c15:MC:=.seq f12_c1 (.seq f12_c2 (.seq f12_c3 f12_c12))
def f12_c16:MC:=.seq f12_c0 f12_c15
attribute [go_sem] f12_r0 f12_r1 f12_r2 f12_r3 f12_r4 f12_r5 f12_r6 f12_r7
theorem f12_k : KK QP 12 f12 [] f12_c16 [(RV.t 0)] 87 := by refine ⟨func12,?_,?_,?_,?_⟩<;>kernel_rfl
theorem f12_ok : callable QP 12 = true := by kernel_rfl
theorem f12_in (h : GI QP gp [(RV.t 0)] res 87 f12_c16 args) : Does QP gp 12 args res := f12_k.i f12_ok h
def f14_r0:List MO:=[Qa (Qv 1) (MOp.ibox (Qn 0)),Qa (Qv 2) (Qd (Qo (Qp A.nil))),Qa (Qv 3) (Qd (Qo (Qp (Qq (Qr Qu 0)))))]
def f14_c0:MC:=.r0 f14_r0
def f14_r1:List MO:=[Qa (Qv 7) (Qf 2 true (Qn 1)),Qa (Qv 8) (Qh 36 [(Qn 7)]),Qa (Qv 6) (Qd (Qn 8)),Qa (Qv 9) (Qi (Qn 6) 0),Qa (Qv 10) (Qi (Qn 6) 1),Qa (Qv 4) (Qd (Qn 9)),Qa (Qv 5) (Qd (Qn 10))]
def f14_c1:MC:=.r0 f14_r1
def f14_r2:List MO:=[Qa (Qv 11) (Qd (Qn 5)),Qa (Qv 12) (Qe Qt Go.BinOp.neq (Qn 11) (Qo (Qp (Qq (Qr Qu 0)))))]
def f14_c2:MC:=.r0 f14_r2
def f14_r3:List MO:=[Qa (Qv 13) (Qd (Qn 5)),Qa (Qv 2) (Qd (Qo (Qp A.nil))),Qa (Qv 3) (Qd (Qn 13))]
def f14_c3:MC:=.r0 f14_r3
def f14_r10:List MO:=[Qa (Qv 14) (Qf 2 true (Qn 1)),Qa (Qv 15) (Qh 37 [(Qn 14)]),Qa (Qv 16) (Qh 38 [(Qn 15)]),Qa (Qv 2) (Qd (Qn 16)),Qa (Qv 3) (Qd (Qo (Qp (Qq (Qr Qu 0)))))]
def f14_c10:MC:=.r0 f14_r10
def f14_c13:MC:=.seq (.seq f14_c1 (.seq f14_c2 (.cond (Qn 12) (.seq f14_c3 .ret) .skip))) (.seq f14_c10 .ret)
def f14_c14:MC:=.seq f14_c0 f14_c13
attribute [go_sem] f14_r0 f14_r1 f14_r2 f14_r3 f14_r10
theorem f14_k : KK QP 14 f14 [1] f14_c14 [(RV.t 2),(RV.t 3)] 17 := by refine ⟨func14,?_,?_,?_,?_⟩<;>kernel_rfl
theorem f14_ok : callable QP 14 = true := by kernel_rfl
theorem f14_in (h : GI QP gp [(RV.t 2),(RV.t 3)] res 17 f14_c14 args) : Does QP gp 14 args res := f14_k.i f14_ok h
def f16_r0:List MO:=[Qa (Qv 2) (MOp.ibox (Qn 0)),Qa (Qv 3) (MOp.ibox (Qn 1)),Qa (Qv 4) (Qd (Qo (Qp (Qq (Qs false))))),Qa (Qv 5) (Qd (Qo (Qp (Qq (Qr Qu 0)))))]
def f16_c0:MC:=.r0 f16_r0
def f16_r1:List MO:=[Qa (Qv 11) (Qf 2 true (Qn 2)),Qa (Qv 12) (Qf 2 true (Qn 3)),Qa (Qv 13) (MOp.bslice 2 [(Qr Qu 0),(D.sl [])] 2 [(0,(Qn 11)),(1,(Qn 12))]),Qa (Qv 14) (Qk Qt (Qn 13)),Qa (Qv 15) (Qd (Qo (Qp (Qq (Qr Qu 0)))))]
def f16_c1:MC:=.r0 f16_r1
def f16_r2:List MO:=[Qa (Qv 16) (Qe Qt Go.BinOp.lss (Qn 15) (Qn 14))]
def f16_c2:MC:=.r0 f16_r2
def f16_r6:List MO:=[Qa (Qv 17) (Qj 2 (Qn 13) (Qn 15)),Qa (Qv 18) (Qf 2 true (Qn 17)),Qa (Qv 7) (MOp.alloc [(Qr Qu 0),(D.sl [])]),Qa none (Ql 2 (Qn 7) (Qn 18))]
def f16_c6:MC:=.r0 f16_r6
def f16_r7:List MO:=[Qa (Qv 20) (Qf 2 true (Qn 7)),Qa (Qv 21) (Qh 36 [(Qn 20)]),Qa (Qv 19) (Qd (Qn 21)),Qa (Qv 22) (Qi (Qn 19) 0),Qa (Qv 23) (Qi (Qn 19) 1),Qa (Qv 8) (Qd (Qn 22)),Qa (Qv 9) (Qd (Qn 23))]
def f16_c7:MC:=.r0 f16_r7
def f16_r8:List MO:=[Qa (Qv 24) (Qd (Qn 9)),Qa (Qv 25) (Qe Qt Go.BinOp.neq (Qn 24) (Qo (Qp (Qq (Qr Qu 0)))))]
def f16_c8:MC:=.r0 f16_r8
def f16_r9:List MO:=[Qa (Qv 26) (Qd (Qn 9)),Qa (Qv 4) (Qd (Qo (Qp (Qq (Qs false))))),Qa (Qv 5) (Qd (Qn 26))]
def f16_c9:MC:=.r0 f16_r9
def f16_c16:MC:=.seq f16_c6 (.seq f16_c7 (.seq f16_c8 (.cond (Qn 25) (.seq f16_c9 .ret) .skip)))
def f16_r18:List MO:=[Qa (Qv 27) (Qe Qt Go.BinOp.add (Qn 15) (Qo (Qp (Qq (Qr Qu 1))))),Qa (Qv 15) (Qd (Qn 27))]
def f16_c18:MC:=.r0 f16_r18
def f16_c24:MC:=.seq f16_c1 (.blk 0 (.loop (.seq f16_c2 (.seq (.cond (Qn 16) .skip (MC.exit 0)) (.seq (.blk 1 f16_c16) f16_c18)))))
def f16_r25:List MO:=[Qa (Qv 28) (Qf 2 true (Qn 2)),Qa (Qv 29) (Qf 2 true (Qn 3)),Qa (Qv 30) (Qh 41 [(Qn 28),(Qn 29)]),Qa (Qv 31) (Qh 37 [(Qn 30)]),Qa (Qv 32) (Qh 38 [(Qn 31)]),Qa (Qv 10) (Qd (Qn 32))]
def f16_c25:MC:=.r0 f16_r25
def f16_r26:List MO:=[Qa (Qv 33) (Qd (Qn 10)),Qa (Qv 34) (Qg 0 (Qn 2)),Qa (Qv 35) (Qf 1 false (Qn 34)),Qa (Qv 36) (Qj 1 (Qn 33) (Qn 35)),Qa (Qv 37) (Qf 1 false (Qn 36)),Qa (Qv 38) (Qd (Qn 10)),Qa (Qv 39) (Qg 0 (Qn 3)),Qa (Qv 40) (Qf 1 false (Qn 39)),Qa (Qv 41) (Qg 1 (Qn 2)),Qa (Qv 42) (Qf 1 false (Qn 41)),Qa (Qv 43) (Qk Qt (Qn 42)),Qa (Qv 44) (Qe Qt Go.BinOp.add (Qn 40) (Qn 43)),Qa (Qv 45) (Qj 1 (Qn 38) (Qn 44)),Qa (Qv 46) (Qf 1 false (Qn 45)),Qa (Qv 47) (Qe Qt Go.BinOp.eql (Qn 37) (Qn 46)),Qa (Qv 4) (Qd (Qn 47)),Qa (Qv 5) (Qd (Qo (Qp (Qq (Qr Qu 0)))))]
def f16_c26:MC:=.reg true f16_r26
def f16_c31:MC:=.seq f16_c0 (.seq f16_c24 (.seq f16_c25 (.seq f16_c26 .ret)))
attribute [go_sem] f16_r0 f16_r1 f16_r2 f16_r6 f16_r7 f16_r8 f16_r9 f16_r18 f16_r25 f16_r26
theorem f16_k : KK QP 16 f16 [2,3] f16_c31 [(RV.t 4),(RV.t 5)] 48 := by refine ⟨func16,?_,?_,?_,?_⟩<;>kernel_rfl
theorem f16_ok : callable QP 16 = true := by kernel_rfl
theorem f16_in (h : GI QP gp [(RV.t 4),(RV.t 5)] res 48 f16_c31 args) : Does QP gp 16 args res := f16_k.i f16_ok h
def f18_r0:List MO:=[Qa (Qv 3) (MOp.ibox (Qn 0)),Qa (Qv 6) (Qd (Qo (Qp A.nil))),Qa (Qv 7) (Qd (Qo (Qp (Qq (Qs false)))))]
def f18_c0:MC:=.r0 f18_r0
def f18_r1:List MO:=[Qa (Qv 21) (Qf 2 true (Qn 3)),Qa (Qv 22) (Qh 36 [(Qn 21)]),Qa (Qv 20) (Qd (Qn 22)),Qa (Qv 23) (Qi (Qn 20) 0),Qa (Qv 24) (Qi (Qn 20) 1),Qa (Qv 8) (Qd (Qn 23)),Qa (Qv 9) (Qd (Qn 24))]
def f18_c1:MC:=.r0 f18_r1
def f18_r2:List MO:=[Qa (Qv 25) (Qd (Qn 9)),Qa (Qv 26) (Qe Qt Go.BinOp.neq (Qn 25) (Qo (Qp (Qq (Qr Qu 0))))),Qa (Qv 27) (Qd (Qn 26)),Qb 27 false (Qv 28),Qa (Qv 28) (Qd (Qn 1)),Qb 27 false (Qv 29),Qa (Qv 29) (Qe Qt Go.BinOp.lss (Qn 28) (Qo (Qp (Qq (Qr Qu 0))))),Qa (Qv 30) (Qm (Qn 27) (Qo (Qp (Qq (Qs true)))) (Qn 29)),Qa (Qv 31) (Qd (Qn 30)),Qb 31 false (Qv 32),Qa (Qv 32) (Qd (Qn 2)),Qb 31 false (Qv 33),Qa (Qv 33) (Qe Qt Go.BinOp.lss (Qn 32) (Qo (Qp (Qq (Qr Qu 0))))),Qa (Qv 34) (Qm (Qn 31) (Qo (Qp (Qq (Qs true)))) (Qn 33)),Qa (Qv 35) (Qd (Qn 34)),Qb 35 false (Qv 36),Qa (Qv 36) (Qd (Qn 1)),Qb 35 false (Qv 37),Qa (Qv 37) (Qg 1 (Qn 3)),Qb 35 false (Qv 38),Qa (Qv 38) (Qf 1 false (Qn 37)),Qb 35 false (Qv 39),Qa (Qv 39) (Qk Qt (Qn 38)),Qb 35 false (Qv 40),Qa (Qv 40) (Qe Qt Go.BinOp.geq (Qn 36) (Qn 39)),Qa (Qv 41) (Qm (Qn 35) (Qo (Qp (Qq (Qs true)))) (Qn 40)),Qa (Qv 42) (Qd (Qn 41)),Qb 42 false (Qv 43),Qa (Qv 43) (Qd (Qn 2)),Qb 42 false (Qv 44),Qa (Qv 44) (Qg 1 (Qn 3)),Qb 42 false (Qv 45),Qa (Qv 45) (Qf 1 false (Qn 44)),Qb 42 false (Qv 46),Qa (Qv 46) (Qk Qt (Qn 45)),Qb 42 false (Qv 47),Qa (Qv 47) (Qe Qt Go.BinOp.geq (Qn 43) (Qn 46)),Qa (Qv 48) (Qm (Qn 42) (Qo (Qp (Qq (Qs true)))) (Qn 47))]
def f18_c2:MC:=.r0 f18_r2
def f18_r3:List MO:=[Qa (Qv 6) (Qd (Qo (Qp A.nil))),Qa (Qv 7) (Qd (Qo (Qp (Qq (Qs false)))))]
def f18_c3:MC:=.r0 f18_r3
def f18_r10:List MO:=[Qa (Qv 49) (Qf 2 true (Qn 3)),Qa (Qv 50) (Qh 37 [(Qn 49)]),Qa (Qv 10) (Qd (Qn 50))]
def f18_c10:MC:=.r0 f18_r10
def f18_r11:List MO:=[Qa (Qv 51) (Qd (Qn 1)),Qa (Qv 52) (Qd (Qn 2)),Qa (Qv 53) (MOp.build [(Qr Qu 0),(Qr Qu 0)] [(0,(1,(Qn 51))),(1,(1,(Qn 52)))]),Qa (Qv 54) (MOp.build [(Qr Qu 0),(Qr Qu 0),(D.sl [])] [(0,(2,(Qn 53)))]),Qa none (Qd (Qo (Qp A.nil))),Qa (Qv 56) MOp.mkM,Qa (Qv 57) (Qd (Qn 1)),Qa (Qv 58) (Qd (Qn 2)),Qa (Qv 59) (MOp.build [(Qr Qu 0),(Qr Qu 0)] [(0,(1,(Qn 57))),(1,(1,(Qn 58)))]),Qa none (MOp.mupd true [Qt,Qt] (Qn 56) (Qn 59) (Qo (Qp (Qq (Qs true))))),Qa (Qv 60) (Qd (Qn 56)),Qa (Qv 55) (MOp.bslO 3 [(Qr Qu 0),(Qr Qu 0),(D.sl [])] 1 [(0,(Qn 54))]),Qa (Qv 11) (MOp.alloc [(D.sl [])]),Qa none (Ql 1 (Qn 11) (Qn 55)),Qa (Qv 12) (MOp.alloc [(D.raw (Go.Value.map none))]),Qa none (Ql 1 (Qn 12) (Qn 60))]
def f18_c11:MC:=.regw f18_r11
def f18_r12:List MO:=[Qa (Qv 61) (MOp.mkF (Go.Fn.func 43) [(Qn 12),(Qn 11)]),Qa (Qv 13) (Qd (Qn 61))]
def f18_c12:MC:=.r0 f18_r12
def f18_r13:List MO:=[Qa (Qv 62) (Qf 1 false (Qn 11)),Qa (Qv 63) (Qk Qt (Qn 62)),Qa (Qv 64) (Qe Qt Go.BinOp.gtr (Qn 63) (Qo (Qp (Qq (Qr Qu 0)))))]
def f18_c13:MC:=.r0 f18_r13
def f18_r18:List MO:=[Qa (Qv 65) (Qf 1 false (Qn 11)),Qa (Qv 66) (Qj 3 (Qn 65) (Qo (Qp (Qq (Qr Qu 0))))),Qa (Qv 67) (Qf 3 true (Qn 66)),Qa (Qv 14) (MOp.alloc [(Qr Qu 0),(Qr Qu 0),(D.sl [])]),Qa none (Ql 3 (Qn 14) (Qn 67))]
def f18_c18:MC:=.r0 f18_r18
def f18_r19:List MO:=[Qa (Qv 68) (Qf 1 false (Qn 11)),Qa (Qv 69) (MOp.slc 3 (Qn 68) (Qv (Qo (Qp (Qq (Qr Qu 1))))) none),Qa none (Ql 1 (Qn 11) (Qn 69))]
def f18_c19:MC:=.r0 f18_r19
def f18_r20:List MO:=[Qa (Qv 70) (Qd (Qn 10)),Qa (Qv 71) (Qg 0 (Qn 14)),Qa (Qv 72) (Qg 0 (Qn 71)),Qa (Qv 73) (Qf 1 false (Qn 72)),Qa (Qv 74) (Qh 45 [(Qn 70),(Qn 73)]),Qa (Qv 75) (Qd (Qn 10)),Qa (Qv 76) (Qg 0 (Qn 14)),Qa (Qv 77) (Qg 1 (Qn 76)),Qa (Qv 78) (Qf 1 false (Qn 77)),Qc (Qv 79) (Qh 45 [(Qn 75),(Qn 78)]),Qa (Qv 80) (MOp.eqs true [Qt,Qt,Qt,Leaf.s,Leaf.s,Leaf.s] (Qn 74) (Qn 79))]
def f18_c20:MC:=.reg true f18_r20
def f18_r21:List MO:=[Qa (Qv 81) (Qg 2 (Qn 14)),Qa (Qv 82) (Qf 1 false (Qn 81)),Qa (Qv 6) (Qd (Qn 82)),Qa (Qv 7) (Qd (Qo (Qp (Qq (Qs true)))))]
def f18_c21:MC:=.r0 f18_r21
def f18_r27:List MO:=[Qa (Qv 84) (Qf 2 true (Qn 3)),Qa (Qv 85) (Qg 0 (Qn 14)),Qa (Qv 86) (Qg 0 (Qn 85)),Qa (Qv 87) (Qf 1 false (Qn 86)),Qa (Qv 88) (Qh 21 [(Qn 84),(Qn 87)]),Qa (Qv 83) (Qd (Qn 88)),Qa (Qv 89) (Qi (Qn 83) 0),Qa (Qv 90) (Qi (Qn 83) 1),Qa (Qv 15) (Qd (Qn 89)),Qa (Qv 16) (Qd (Qn 90))]
def f18_c27:MC:=.r0 f18_r27
def f18_r28:List MO:=[Qa (Qv 92) (Qf 2 true (Qn 3)),Qa (Qv 93) (Qg 0 (Qn 14)),Qa (Qv 94) (Qg 1 (Qn 93)),Qa (Qv 95) (Qf 1 false (Qn 94)),Qa (Qv 96) (Qh 21 [(Qn 92),(Qn 95)]),Qa (Qv 91) (Qd (Qn 96)),Qa (Qv 97) (Qi (Qn 91) 0),Qa (Qv 98) (Qi (Qn 91) 1),Qa (Qv 17) (Qd (Qn 97)),Qa (Qv 18) (Qd (Qn 98))]
def f18_c28:MC:=.r0 f18_r28
def f18_r29:List MO:=[Qa (Qv 99) (Qd (Qn 15)),Qa (Qv 100) (Qk Qt (Qn 99)),Qa (Qv 101) (Qd (Qo (Qp (Qq (Qr Qu 0)))))]
def f18_c29:MC:=.r0 f18_r29
def f18_r30:List MO:=[Qa (Qv 102) (Qe Qt Go.BinOp.lss (Qn 101) (Qn 100))]
def f18_c30:MC:=.r0 f18_r30
def f18_r34:List MO:=[Qa (Qv 103) (Qd (Qn 101)),Qa (Qv 19) (Qd (Qn 103))]
def f18_c34:MC:=.r0 f18_r34
def f18_r35:List MO:=[Qa (Qv 104) (Qd (Qn 13)),Qa (Qv 105) (Qf 3 true (Qn 14)),Qa (Qv 106) (Qd (Qn 19)),Qa (Qv 107) (Qd (Qn 15)),Qa (Qv 108) (Qd (Qn 19)),Qa (Qv 109) (Qj 1 (Qn 107) (Qn 108)),Qa (Qv 110) (Qf 1 false (Qn 109)),Qa (Qv 111) (Qd (Qn 17)),Qa (Qv 112) (Qd (Qn 19)),Qa (Qv 113) (Qj 1 (Qn 111) (Qn 112)),Qa (Qv 114) (Qf 1 false (Qn 113)),Qa (Qv 115) (MOp.build [(Qr Qu 0),(Qr Qu 0)] [(0,(1,(Qn 110))),(1,(1,(Qn 114)))]),Qc (Qv 116) (MOp.callv (Qn 104) [(Qn 105),(Qn 106),(Qn 115)])]
def f18_c35:MC:=.reg true f18_r35
def f18_r38:List MO:=[Qa (Qv 117) (Qe Qt Go.BinOp.add (Qn 101) (Qo (Qp (Qq (Qr Qu 1))))),Qa (Qv 101) (Qd (Qn 117))]
def f18_c38:MC:=.r0 f18_r38
def f18_c41:MC:=.seq f18_c30 (.seq (.cond (Qn 102) .skip (MC.exit 2)) (.seq (.blk 3 (.seq f18_c34 f18_c35)) f18_c38))
def f18_c46:MC:=.seq f18_c27 (.seq f18_c28 (.seq f18_c29 (.blk 2 (.loop f18_c41))))
def f18_c48:MC:=.seq f18_c19 (.seq (.seq f18_c20 (.cond (Qn 80) (.seq f18_c21 .ret) .skip)) f18_c46)
def f18_r54:List MO:=[Qa (Qv 6) (Qd (Qo (Qp A.nil))),Qa (Qv 7) (Qd (Qo (Qp (Qq (Qs false)))))]
def f18_c54:MC:=.r0 f18_r54
def f18_c57:MC:=.seq (.blk 0 (.loop (.seq (.seq f18_c13 (.cond (Qn 64) .skip (MC.exit 0))) (.blk 1 (.seq f18_c18 f18_c48))))) (.seq f18_c54 .ret)
def f18_c60:MC:=.seq f18_c10 (.seq f18_c11 (.seq f18_c12 f18_c57))
def f18_c61:MC:=.seq (.seq f18_c1 (.seq f18_c2 (.cond (Qn 48) (.seq f18_c3 .ret) .skip))) f18_c60
def f18_c62:MC:=.seq f18_c0 f18_c61
attribute [go_sem] f18_r0 f18_r1 f18_r2 f18_r3 f18_r10 f18_r11 f18_r12 f18_r13 f18_r18 f18_r19 f18_r20 f18_r21 f18_r27 f18_r28 f18_r29 f18_r30 f18_r34 f18_r35 f18_r38 f18_r54
theorem f18_k : KK QP 18 f18 [3,55] f18_c62 [(RV.t 6),(RV.t 7)] 118 := by refine ⟨func18,?_,?_,?_,?_⟩<;>kernel_rfl
theorem f18_ok : callable QP 18 = true := by kernel_rfl
theorem f18_in (h : GI QP gp [(RV.t 6),(RV.t 7)] res 118 f18_c62 args) : Does QP gp 18 args res := f18_k.i f18_ok h
def f37_r0:List MO:=[Qa (Qv 1) (MOp.ibox (Qn 0)),Qa (Qv 2) (Qd (Qo (Qp (Qq D.nilP))))]
def f37_c0:MC:=.r0 f37_r0
def f37_r1:List MO:=[Qa (Qv 3) (Qf 2 true (Qn 1)),Qa (Qv 4) (Qg 1 (Qn 1)),Qa (Qv 5) (Qf 1 false (Qn 4)),Qa (Qv 6) (Qk Qt (Qn 5)),Qa (Qv 7) (MOp.mkS 1 8 [(Qr Qu 0)] (Qn 6)),Qa (Qv 8) (MOp.build [(Qr Qu 0),(D.sl []),(D.sl [])] [(0,(2,(Qn 3))),(2,(1,(Qn 7)))]),Qa (Qv 9) (MOp.box (Qn 8)),Qa (Qv 2) (Qd (Qn 9))]
def f37_c1:MC:=.reg true f37_r1
def f37_c4:MC:=.seq f37_c0 (.seq f37_c1 .ret)
attribute [go_sem] f37_r0 f37_r1
theorem f37_k : KK QP 37 f37 [1] f37_c4 [(RV.t 2)] 10 := by refine ⟨func37,?_,?_,?_,?_⟩<;>kernel_rfl
theorem f37_ok : callable QP 37 = true := by kernel_rfl
theorem f37_tri (h : GT QP gp [(RV.t 2)] pre R 10 f37_c4 args) : Tri QP gp 37 args pre R := f37_k.t h
def f38_r0:List MO:=[Qa (Qv 2) (Qd (Qo (Qp A.nil)))]
def f38_c0:MC:=.r0 f38_r0
def f38_r1:List MO:=[Qa (Qv 6) (Qd (Qn 0)),Qa (Qv 7) (MOp.mkMv (Go.Fn.func 71) (Qn 6)),Qa (Qv 3) (Qd (Qn 7))]
def f38_c1:MC:=.r0 f38_r1
def f38_r2:List MO:=[Qa (Qv 8) (Qd (Qn 3)),Qa (Qv 9) (MOp.callv (Qn 8) []),Qa (Qv 4) (Qd (Qo (Qp (Qq (Qr Qu 0))))),Qa (Qv 5) (Qd (Qn 9))]
def f38_c2:MC:=.r0 f38_r2
def f38_r3:List MO:=[Qa (Qv 10) (Qd (Qn 5)),Qa (Qv 11) (Qd (Qn 4)),Qa (Qv 12) (Qe Qt Go.BinOp.gtr (Qn 10) (Qn 11))]
def f38_c3:MC:=.r0 f38_r3
def f38_r8:List MO:=[Qa (Qv 13) (Qd (Qn 5)),Qa (Qv 14) (Qd (Qn 3)),Qa (Qv 15) (MOp.callv (Qn 14) []),Qa (Qv 4) (Qd (Qn 13)),Qa (Qv 5) (Qd (Qn 15))]
def f38_c8:MC:=.r0 f38_r8
def f38_r14:List MO:=[Qa (Qv 16) (Qd (Qn 0)),Qa (Qv 17) (MOp.nck (Qn 16)),Qa (Qv 18) (Qg 2 (Qn 17)),Qa (Qv 19) (Qf 1 false (Qn 18)),Qa (Qv 2) (Qd (Qn 19))]
def f38_c14:MC:=.r0 f38_r14
def f38_c17:MC:=.seq (.seq f38_c2 (.blk 0 (.loop (.seq (.seq f38_c3 (.cond (Qn 12) .skip (MC.exit 0))) (.blk 1 f38_c8))))) (.seq f38_c14 .ret)
def f38_c19:MC:=.seq f38_c0 (.seq f38_c1 f38_c17)
attribute [go_sem] f38_r0 f38_r1 f38_r2 f38_r3 f38_r8 f38_r14
theorem f38_k : KK QP 38 f38 [] f38_c19 [(RV.t 2)] 20 := by refine ⟨func38,?_,?_,?_,?_⟩<;>kernel_rfl
theorem f38_ok : callable QP 38 = true := by kernel_rfl
theorem f38_tri (h : GT QP gp [(RV.t 2)] pre R 20 f38_c19 args) : Tri QP gp 38 args pre R := f38_k.t h
def f41_r0:List MO:=[Qa (Qv 2) (MOp.ibox (Qn 0)),Qa (Qv 3) (MOp.ibox (Qn 1)),Qa (Qv 4) (MOp.alloc [(Qr Qu 0),(D.sl [])])]
def f41_c0:MC:=.r0 f41_r0
def f41_r1:List MO:=[Qa (Qv 9) (Qg 0 (Qn 2)),Qa (Qv 10) (Qf 1 false (Qn 9)),Qa (Qv 11) (Qg 1 (Qn 2)),Qa (Qv 12) (Qf 1 false (Qn 11)),Qa (Qv 13) (MOp.callN 73 [(Qn 12)]),Qa (Qv 14) (MOp.build [(Qr Qu 0),(D.sl [])] [(0,(1,(Qn 10))),(1,(1,(Qn 13)))]),Qa (Qv 5) (MOp.alloc [(Qr Qu 0),(D.sl [])]),Qa none (Ql 2 (Qn 5) (Qn 14))]
def f41_c1:MC:=.regw f41_r1
def f41_r2:List MO:=[Qa (Qv 15) (Qg 1 (Qn 3)),Qa (Qv 16) (Qf 1 false (Qn 15)),Qa (Qv 17) (Qk Qt (Qn 16)),Qa (Qv 18) (Qd (Qo (Qp (Qq (Qr Qu 0)))))]
def f41_c2:MC:=.r0 f41_r2
def f41_r3:List MO:=[Qa (Qv 19) (Qe Qt Go.BinOp.lss (Qn 18) (Qn 17))]
def f41_c3:MC:=.r0 f41_r3
def f41_r7:List MO:=[Qa (Qv 20) (Qj 6 (Qn 16) (Qn 18)),Qa (Qv 21) (Qf 6 true (Qn 20)),Qa (Qv 7) (MOp.alloc [(Qr Qu 0),(Qr Qu 0),(Qr Qu 0),(D.str (ByteArray.mk #[])),(D.sl []),(D.sl [])]),Qa none (Ql 6 (Qn 7) (Qn 21))]
def f41_c7:MC:=.r0 f41_r7
def f41_r8:List MO:=[Qa (Qv 22) (Qg 5 (Qn 7)),Qa (Qv 23) (Qf 1 false (Qn 22)),Qa (Qv 24) (Qh 44 [(Qn 23)]),Qa (Qv 25) (Qg 5 (Qn 7)),Qa none (Ql 1 (Qn 25) (Qn 24))]
def f41_c8:MC:=.r0 f41_r8
def f41_r9:List MO:=[Qa (Qv 26) (Qg 5 (Qn 7)),Qa (Qv 27) (Qf 1 false (Qn 26)),Qa (Qv 28) (Qk Qt (Qn 27)),Qa (Qv 29) (Qd (Qo (Qp (Qq (Qr Qu 0)))))]
def f41_c9:MC:=.r0 f41_r9
def f41_r10:List MO:=[Qa (Qv 30) (Qe Qt Go.BinOp.lss (Qn 29) (Qn 28))]
def f41_c10:MC:=.r0 f41_r10
def f41_r14:List MO:=[Qa (Qv 31) (Qd (Qn 29)),Qa (Qv 8) (Qd (Qn 31))]
def f41_c14:MC:=.r0 f41_r14
def f41_r15:List MO:=[Qa (Qv 32) (Qg 5 (Qn 7)),Qa (Qv 33) (Qf 1 false (Qn 32)),Qa (Qv 34) (Qd (Qn 8)),Qa (Qv 35) (Qj 1 (Qn 33) (Qn 34)),Qa (Qv 36) (Qf 1 false (Qn 35)),Qa (Qv 37) (Qg 1 (Qn 2)),Qa (Qv 38) (Qf 1 false (Qn 37)),Qa (Qv 39) (Qk Qt (Qn 38)),Qa (Qv 40) (Qe Qt Go.BinOp.add (Qn 36) (Qn 39)),Qa (Qv 41) (Qj 1 (Qn 33) (Qn 34)),Qa none (Ql 1 (Qn 41) (Qn 40))]
def f41_c15:MC:=.reg true f41_r15
def f41_r18:List MO:=[Qa (Qv 42) (Qe Qt Go.BinOp.add (Qn 29) (Qo (Qp (Qq (Qr Qu 1))))),Qa (Qv 29) (Qd (Qn 42))]
def f41_c18:MC:=.r0 f41_r18
def f41_c21:MC:=.seq f41_c10 (.seq (.cond (Qn 30) .skip (MC.exit 2)) (.seq (.blk 3 (.seq f41_c14 f41_c15)) f41_c18))
def f41_r25:List MO:=[Qa (Qv 43) (Qg 1 (Qn 5)),Qa (Qv 44) (Qf 1 false (Qn 43)),Qa (Qv 45) (Qf 6 true (Qn 7)),Qa (Qv 46) (MOp.bslice 6 [(Qr Qu 0),(Qr Qu 0),(Qr Qu 0),(D.str (ByteArray.mk #[])),(D.sl []),(D.sl [])] 1 [(0,(Qn 45))]),Qa (Qv 47) (MOp.app 44 6 88 (Qn 44) (Qn 46)),Qa (Qv 48) (Qg 1 (Qn 5)),Qa none (Ql 1 (Qn 48) (Qn 47))]
def f41_c25:MC:=.r0 f41_r25
def f41_c27:MC:=.seq f41_c8 (.seq (.seq f41_c9 (.blk 2 (.loop f41_c21))) f41_c25)
def f41_r30:List MO:=[Qa (Qv 49) (Qe Qt Go.BinOp.add (Qn 18) (Qo (Qp (Qq (Qr Qu 1))))),Qa (Qv 18) (Qd (Qn 49))]
def f41_c30:MC:=.r0 f41_r30
def f41_c33:MC:=.seq f41_c3 (.seq (.cond (Qn 19) .skip (MC.exit 0)) (.seq (.blk 1 (.seq f41_c7 f41_c27)) f41_c30))
def f41_r37:List MO:=[Qa (Qv 50) (Qf 2 true (Qn 5)),Qa none (Ql 2 (Qn 4) (Qn 50))]
def f41_c37:MC:=.r0 f41_r37
def f41_c41:MC:=.seq f41_c1 (.seq (.seq f41_c2 (.blk 0 (.loop f41_c33))) (.seq f41_c37 .ret))
def f41_c42:MC:=.seq f41_c0 f41_c41
theorem f41_k : KK QP 41 f41 [2,3,3013] f41_c42 [(RV.cell 4 2 true)] 51 := by refine ⟨func41,?_,?_,?_,?_⟩<;>kernel_rfl
theorem f41_ok : callable QP 41 = true := by kernel_rfl
theorem f41_in (h : GI QP gp [(RV.cell 4 2 true)] res 51 f41_c42 args) : Does QP gp 41 args res := f41_k.i f41_ok h
def f43_r0:List MO:=[Qa (Qv 5) (MOp.box (Qn 0)),Qa (Qv 7) (MOp.box (Qn 2))]
def f43_c0:MC:=.r0 f43_r0
def f43_r1:List MO:=[Qa (Qv 8) (Qf 1 false (Qn 3)),Qa (Qv 9) (Qf 2 true (Qn 7)),Qa (Qv 10) (MOp.lkp false (Qp (Qq (Qs false))) true [Qt,Qt] (Qn 8) (Qn 9)),Qa (Qv 11) (MOp.not (Qn 10))]
def f43_c1:MC:=.r0 f43_r1
def f43_r2:List MO:=[Qa (Qv 12) (Qf 1 false (Qn 3)),Qa (Qv 13) (Qf 2 true (Qn 7)),Qa none (MOp.mupd true [Qt,Qt] (Qn 12) (Qn 13) (Qo (Qp (Qq (Qs true)))))]
def f43_c2:MC:=.r0 f43_r2
def f43_r3:List MO:=[Qa (Qv 14) (MOp.cld 1 false (Qn 4)),Qa (Qv 15) (MOp.cld 2 true (Qn 7)),Qa (Qv 16) (Qg 2 (Qn 5)),Qa (Qv 17) (MOp.cld 1 false (Qn 16)),Qa (Qv 18) (MOp.callN 44 [(Qn 17)]),Qa (Qv 19) (Qd (Qn 1)),Qa (Qv 20) (MOp.bslice 1 [(Qr Qu 0)] 1 [(0,(Qn 19))]),Qa (Qv 21) (MOp.appF 3 1 8 (Qn 18) (Qn 20)),Qa (Qv 22) (MOp.build [(Qr Qu 0),(Qr Qu 0),(D.sl [])] [(0,(2,(Qn 15))),(2,(1,(Qn 21)))]),Qa (Qv 23) (MOp.bslice 3 [(Qr Qu 0),(Qr Qu 0),(D.sl [])] 1 [(0,(Qn 22))]),Qa (Qv 24) (MOp.app 68 3 40 (Qn 14) (Qn 23)),Qa none (Ql 1 (Qn 4) (Qn 24))]
def f43_c3:MC:=.reg true f43_r3
def f43_c8:MC:=.seq f43_c0 (.seq f43_c1 (.cond (Qn 11) (.seq f43_c2 f43_c3) .skip))
attribute [go_sem] f43_r0 f43_r1 f43_r2 f43_r3
theorem f43_k : KK QP 43 f43 [3018,4021,2000] f43_c8 [] 25 := by refine ⟨func43,?_,?_,?_,?_⟩<;>kernel_rfl
theorem f43_ok : callable QP 43 = true := by kernel_rfl
theorem f43_tri (h : GT QP gp [] pre R 25 f43_c8 args) : Tri QP gp 43 args pre R := f43_k.t h
def f45_r0:List MO:=[Qa (Qv 4) (MOp.alloc [(Qr Qu 0),(Qr Qu 0),(Qr Qu 0),(D.str (ByteArray.mk #[])),(D.str (ByteArray.mk #[])),(D.str (ByteArray.mk #[]))])]
def f45_c0:MC:=.r0 f45_r0
def f45_r1:List MO:=[Qa (Qv 10) (Qd (Qn 0)),Qa (Qv 11) (MOp.nck (Qn 10)),Qa (Qv 12) (Qg 0 (Qn 11)),Qa (Qv 13) (Qf 2 true (Qn 12)),Qa (Qv 14) (Qd (Qn 1)),Qa (Qv 15) (Qh 21 [(Qn 13),(Qn 14)]),Qa (Qv 9) (Qd (Qn 15)),Qa (Qv 16) (Qi (Qn 9) 0),Qa (Qv 17) (Qi (Qn 9) 1),Qa (Qv 5) (Qd (Qn 16)),Qa (Qv 6) (Qd (Qn 17))]
def f45_c1:MC:=.r0 f45_r1
def f45_r2:List MO:=[Qa (Qv 18) (Qd (Qn 5)),Qa (Qv 19) (Qk Qt (Qn 18)),Qa (Qv 20) (Qd (Qo (Qp (Qq (Qr Qu 0)))))]
def f45_c2:MC:=.r0 f45_r2
def f45_r3:List MO:=[Qa (Qv 21) (Qe Qt Go.BinOp.lss (Qn 20) (Qn 19))]
def f45_c3:MC:=.r0 f45_r3
def f45_r7:List MO:=[Qa (Qv 22) (Qd (Qn 20)),Qa (Qv 23) (Qj 1 (Qn 18) (Qn 20)),Qa (Qv 24) (Qf 1 false (Qn 23)),Qa (Qv 7) (Qd (Qn 22)),Qa (Qv 8) (Qd (Qn 24))]
def f45_c7:MC:=.r0 f45_r7
def f45_r8:List MO:=[Qa (Qv 25) (Qd (Qn 5)),Qa (Qv 26) (Qd (Qn 7)),Qa (Qv 27) (Qd (Qn 0)),Qa (Qv 28) (MOp.nck (Qn 27)),Qa (Qv 29) (Qg 2 (Qn 28)),Qa (Qv 30) (Qf 1 false (Qn 29)),Qa (Qv 31) (Qd (Qn 8)),Qa (Qv 32) (Qj 1 (Qn 30) (Qn 31)),Qa (Qv 33) (Qf 1 false (Qn 32)),Qa (Qv 34) (Qj 1 (Qn 25) (Qn 26)),Qa none (Ql 1 (Qn 34) (Qn 33))]
def f45_c8:MC:=.r0 f45_r8
def f45_r11:List MO:=[Qa (Qv 35) (Qe Qt Go.BinOp.add (Qn 20) (Qo (Qp (Qq (Qr Qu 1))))),Qa (Qv 20) (Qd (Qn 35))]
def f45_c11:MC:=.r0 f45_r11
def f45_c14:MC:=.seq f45_c3 (.seq (.cond (Qn 21) .skip (MC.exit 0)) (.seq (.blk 1 (.seq f45_c7 f45_c8)) f45_c11))
def f45_r18:List MO:=[Qa (Qv 36) (Qd (Qn 0)),Qa (Qv 37) (MOp.nck (Qn 36)),Qa (Qv 38) (Qg 0 (Qn 37)),Qa (Qv 39) (Qg 1 (Qn 38)),Qa (Qv 40) (Qf 1 false (Qn 39)),Qa (Qv 41) (Qd (Qn 1)),Qa (Qv 42) (Qj 6 (Qn 40) (Qn 41)),Qa (Qv 43) (Qg 0 (Qn 42)),Qa (Qv 44) (Qf 1 false (Qn 43)),Qa (Qv 45) (Qd (Qn 0)),Qa (Qv 46) (MOp.nck (Qn 45)),Qa (Qv 47) (Qg 0 (Qn 46)),Qa (Qv 48) (Qg 1 (Qn 47)),Qa (Qv 49) (Qf 1 false (Qn 48)),Qa (Qv 50) (Qd (Qn 1)),Qa (Qv 51) (Qj 6 (Qn 49) (Qn 50)),Qa (Qv 52) (Qg 1 (Qn 51)),Qa (Qv 53) (Qf 3 true (Qn 52)),Qa (Qv 54) (Qd (Qn 0)),Qa (Qv 55) (Qd (Qn 1)),Qa (Qv 56) (Qh 74 [(Qn 54),(Qn 55)]),Qa (Qv 57) (Qd (Qn 5)),Qa (Qv 58) (Qh 75 [(Qn 57)]),Qa (Qv 59) (MOp.build [(Qr Qu 0),(Qr Qu 0),(Qr Qu 0),(D.str (ByteArray.mk #[])),(D.str (ByteArray.mk #[])),(D.str (ByteArray.mk #[]))] [(0,(1,(Qn 44))),(1,(3,(Qn 53))),(4,(1,(Qn 56))),(5,(1,(Qn 58)))]),Qa none (Ql 6 (Qn 4) (Qn 59))]
def f45_c18:MC:=.reg true f45_r18
def f45_c22:MC:=.seq f45_c1 (.seq (.seq f45_c2 (.blk 0 (.loop f45_c14))) (.seq f45_c18 .ret))
def f45_c23:MC:=.seq f45_c0 f45_c22
attribute [go_sem] f45_r0 f45_r1 f45_r2 f45_r3 f45_r7 f45_r8 f45_r11 f45_r18
theorem f45_k : KK QP 45 f45 [] f45_c23 [(RV.cell 4 6 true)] 60 := by refine ⟨func45,?_,?_,?_,?_⟩<;>kernel_rfl
theorem f45_ok : callable QP 45 = true := by kernel_rfl
theorem f45_in (h : GI QP gp [(RV.cell 4 6 true)] res 60 f45_c23 args) : Does QP gp 45 args res := f45_k.i f45_ok h
def f71_r0:List MO:=[Qa (Qv 2) (Qd (Qo (Qp (Qq (Qr Qu 0)))))]
def f71_c0:MC:=.r0 f71_r0
def f71_r1:List MO:=[Qa (Qv 9) MOp.mkM,Qa (Qv 3) (MOp.alloc [(D.raw (Go.Value.map none))]),Qa none (Ql 1 (Qn 3) (Qn 9))]
def f71_c1:MC:=.r0 f71_r1
def f71_r2:List MO:=[Qa (Qv 10) (Qd (Qn 0)),Qa (Qv 11) (MOp.nck (Qn 10)),Qa (Qv 12) (Qg 2 (Qn 11)),Qa (Qv 13) (Qf 1 false (Qn 12)),Qa (Qv 14) (Qk Qt (Qn 13)),Qa (Qv 15) (MOp.mkS 1 8 [(Qr Qu 0)] (Qn 14)),Qa (Qv 4) (MOp.alloc [(D.sl [])]),Qa none (Ql 1 (Qn 4) (Qn 15))]
def f71_c2:MC:=.r0 f71_r2
def f71_r3:List MO:=[Qa (Qv 16) (Qd (Qn 0)),Qa (Qv 17) (Qh 97 [(Qn 16)])]
def f71_c3:MC:=.r0 f71_r3
def f71_r4:List MO:=[Qa (Qv 5) (Qd (Qn 18))]
def f71_c4:MC:=.r0 f71_r4
def f71_r5:List MO:=[Qa (Qv 6) (MOp.alloc [(Qr Qu 0),(Qr Qu 0),(Qr Qu 0),(D.str (ByteArray.mk #[])),(D.str (ByteArray.mk #[])),(D.str (ByteArray.mk #[]))]),Qa none (Ql 6 (Qn 6) (Qn 19))]
def f71_c5:MC:=.r0 f71_r5
def f71_r7:List MO:=[Qa (Qv 21) (Qf 1 false (Qn 3)),Qa (Qv 22) (Qf 6 true (Qn 6)),Qa (Qv 23) (MOp.lkp true (Qp (Qq (Qr Qu 0))) true [Qt,Qt,Qt,Leaf.s,Leaf.s,Leaf.s] (Qn 21) (Qn 22)),Qa (Qv 20) (Qd (Qn 23)),Qa (Qv 24) (Qi (Qn 20) 0),Qa (Qv 25) (Qi (Qn 20) 1),Qa (Qv 7) (Qd (Qn 24)),Qa (Qv 8) (Qd (Qn 25))]
def f71_c7:MC:=.r0 f71_r7
def f71_r8:List MO:=[Qa (Qv 26) (Qd (Qn 8)),Qa (Qv 27) (MOp.not (Qn 26))]
def f71_c8:MC:=.r0 f71_r8
def f71_r9:List MO:=[Qa (Qv 28) (Qf 1 false (Qn 3)),Qa (Qv 29) (Qf 6 true (Qn 6)),Qa (Qv 30) (Qf 1 false (Qn 3)),Qa (Qv 31) (Qk Leaf.b (Qn 30)),Qa none (MOp.mupd true [Qt,Qt,Qt,Leaf.s,Leaf.s,Leaf.s] (Qn 28) (Qn 29) (Qn 31))]
def f71_c9:MC:=.r0 f71_r9
def f71_r14:List MO:=[Qa (Qv 32) (Qf 1 false (Qn 4)),Qa (Qv 33) (Qd (Qn 5)),Qa (Qv 34) (Qf 1 false (Qn 3)),Qa (Qv 35) (Qf 6 true (Qn 6)),Qa (Qv 36) (MOp.lkp false (Qp (Qq (Qr Qu 0))) true [Qt,Qt,Qt,Leaf.s,Leaf.s,Leaf.s] (Qn 34) (Qn 35)),Qa (Qv 37) (Qj 1 (Qn 32) (Qn 33)),Qa none (Ql 1 (Qn 37) (Qn 36))]
def f71_c14:MC:=.reg true f71_r14
def f71_c15:MC:=.seq (.seq f71_c7 (.seq f71_c8 (.cond (Qn 27) f71_c9 .skip))) f71_c14
def f71_c17:MC:=.rf (Qn 17) [18,19] (.seq f71_c4 f71_c5) (.blk 1 f71_c15)
def f71_r20:List MO:=[Qa (Qv 38) (Qd (Qn 0)),Qa (Qv 39) (MOp.nck (Qn 38)),Qa (Qv 40) (Qg 2 (Qn 39)),Qa (Qv 41) (Qf 1 false (Qn 40)),Qa (Qv 42) (Qf 1 false (Qn 4)),Qa (Qv 43) (MOp.cpy 1 (Qn 41) (Qn 42))]
def f71_c20:MC:=.reg true f71_r20
def f71_r21:List MO:=[Qa (Qv 44) (Qf 1 false (Qn 3)),Qa (Qv 45) (Qk Leaf.b (Qn 44)),Qa (Qv 2) (Qd (Qn 45))]
def f71_c21:MC:=.r0 f71_r21
def f71_c25:MC:=.seq (.seq f71_c3 (.blk 0 f71_c17)) (.seq f71_c20 (.seq f71_c21 .ret))
def f71_c28:MC:=.seq f71_c0 (.seq f71_c1 (.seq f71_c2 f71_c25))
attribute [go_sem] f71_r0 f71_r1 f71_r2 f71_r3 f71_r4 f71_r5 f71_r7 f71_r8 f71_r9 f71_r14 f71_r20 f71_r21
theorem f71_k : KK QP 71 f71 [] f71_c28 [(RV.t 2)] 46 := by refine ⟨func71,?_,?_,?_,?_⟩<;>kernel_rfl
theorem f71_ok : callable QP 71 = true := by kernel_rfl
theorem f71_tri (h : GT QP gp [(RV.t 2)] pre R 46 f71_c28 args) : Tri QP gp 71 args pre R := f71_k.t h
def f73_r0:List MO:=[Qa (Qv 2) (Qd (Qo (Qp A.nil)))]
def f73_c0:MC:=.r0 f73_r0
def f73_r1:List MO:=[Qa (Qv 3) (Qd (Qn 0)),Qa (Qv 4) (MOp.nilq NK.sl false (Qn 3))]
def f73_c1:MC:=.r0 f73_r1
def f73_r2:List MO:=[Qa (Qv 2) (Qd (Qo (Qp A.nil)))]
def f73_c2:MC:=.r0 f73_r2
def f73_r8:List MO:=[Qa (Qv 5) (MOp.bslO 6 [(Qr Qu 0),(Qr Qu 0),(Qr Qu 0),(D.str (ByteArray.mk #[])),(D.sl []),(D.sl [])] 0 []),Qa (Qv 6) (Qd (Qn 0)),Qa (Qv 7) (MOp.app 44 6 88 (Qn 5) (Qn 6)),Qa (Qv 2) (Qd (Qn 7))]
def f73_c8:MC:=.r0 f73_r8
def f73_c12:MC:=.seq f73_c0 (.seq (.seq f73_c1 (.cond (Qn 4) (.seq f73_c2 .ret) .skip)) (.seq f73_c8 .ret))
theorem f73_k : KK QP 73 f73 [5] f73_c12 [(RV.t 2)] 8 := by refine ⟨func73,?_,?_,?_,?_⟩<;>kernel_rfl
theorem f73_ok : callable QP 73 = true := by kernel_rfl
theorem f73_tri (h : GT QP gp [(RV.t 2)] pre R 8 f73_c12 args) : Tri QP gp 73 args pre R := f73_k.t h
def f74_r0:List MO:=[Qa (Qv 4) (Qd (Qo (Qp (Qq (D.str (ByteArray.mk #[]))))))]
def f74_c0:MC:=.r0 f74_r0
def f74_r1:List MO:=[Qa (Qv 13) (Qd (Qn 0)),Qa (Qv 14) (MOp.nck (Qn 13)),Qa (Qv 15) (Qg 0 (Qn 14)),Qa (Qv 16) (Qf 2 true (Qn 15)),Qa (Qv 17) (Qd (Qn 1)),Qa (Qv 18) (Qh 64 [(Qn 16),(Qn 17)]),Qa (Qv 12) (Qd (Qn 18)),Qa (Qv 19) (Qi (Qn 12) 0),Qa (Qv 20) (Qi (Qn 12) 1),Qa (Qv 5) (Qd (Qn 19)),Qa (Qv 6) (Qd (Qn 20))]
def f74_c1:MC:=.r0 f74_r1
def f74_r2:List MO:=[Qa (Qv 7) (MOp.bldN 169 5)]
def f74_c2:MC:=.r0 f74_r2
def f74_r3:List MO:=[Qa (Qv 21) (Qd (Qn 5)),Qa (Qv 22) (Qk Qt (Qn 21)),Qa (Qv 23) (Qd (Qo (Qp (Qq (Qr Qu 0)))))]
def f74_c3:MC:=.r0 f74_r3
def f74_r4:List MO:=[Qa (Qv 24) (Qe Qt Go.BinOp.lss (Qn 23) (Qn 22))]
def f74_c4:MC:=.r0 f74_r4
def f74_r8:List MO:=[Qa (Qv 25) (Qj 3 (Qn 21) (Qn 23)),Qa (Qv 26) (Qf 3 true (Qn 25)),Qa (Qv 9) (MOp.alloc [(Qr Qu 0),(Qr Qu 0),(D.str (ByteArray.mk #[]))]),Qa none (Ql 3 (Qn 9) (Qn 26))]
def f74_c8:MC:=.r0 f74_r8
def f74_r9:List MO:=[Qa (Qv 28) (Qf 3 true (Qn 9)),Qa (Qv 29) (Qh 100 [(Qn 28)]),Qa (Qv 27) (Qd (Qn 29)),Qa (Qv 30) (Qi (Qn 27) 0),Qa (Qv 31) (Qi (Qn 27) 1),Qa (Qv 10) (Qd (Qn 30)),Qa (Qv 11) (Qd (Qn 31))]
def f74_c9:MC:=.r0 f74_r9
def f74_r10:List MO:=[Qa (Qv 32) (Qd (Qn 10)),Qa (Qv 33) (Qe Leaf.s Go.BinOp.add (Qn 32) (Qo (Qp (Qq (D.str (ByteArray.mk #[44])))))),Qa (Qv 34) (Qh 101 [(Qn 7),(Qn 33)])]
def f74_c10:MC:=.r0 f74_r10
def f74_r14:List MO:=[Qa (Qv 35) (Qe Qt Go.BinOp.add (Qn 23) (Qo (Qp (Qq (Qr Qu 1))))),Qa (Qv 23) (Qd (Qn 35))]
def f74_c14:MC:=.r0 f74_r14
def f74_c15:MC:=.seq (.blk 1 (.seq f74_c8 (.seq f74_c9 f74_c10))) f74_c14
def f74_r21:List MO:=[Qa (Qv 36) (Qh 102 [(Qn 7)]),Qa (Qv 4) (Qd (Qn 36))]
def f74_c21:MC:=.r0 f74_r21
def f74_c24:MC:=.seq (.seq f74_c3 (.blk 0 (.loop (.seq f74_c4 (.seq (.cond (Qn 24) .skip (MC.exit 0)) f74_c15))))) (.seq f74_c21 .ret)
def f74_c27:MC:=.seq f74_c0 (.seq f74_c1 (.seq f74_c2 f74_c24))
attribute [go_sem] f74_r0 f74_r1 f74_r2 f74_r3 f74_r4 f74_r8 f74_r9 f74_r10 f74_r14 f74_r21
theorem f74_k : KK QP 74 f74 [] f74_c27 [(RV.t 4)] 37 := by refine ⟨func74,?_,?_,?_,?_⟩<;>kernel_rfl
theorem f74_ok : callable QP 74 = true := by kernel_rfl
theorem f74_in (h : GI QP gp [(RV.t 4)] res 37 f74_c27 args) : Does QP gp 74 args res := f74_k.i f74_ok h
def f75_r0:List MO:=[Qa (Qv 2) (Qd (Qo (Qp (Qq (D.str (ByteArray.mk #[]))))))]
def f75_c0:MC:=.r0 f75_r0
def f75_r1:List MO:=[Qa (Qv 3) (MOp.bldN 169 5)]
def f75_c1:MC:=.r0 f75_r1
def f75_r2:List MO:=[Qa (Qv 6) (Qd (Qn 0)),Qa (Qv 7) (Qk Qt (Qn 6)),Qa (Qv 8) (Qd (Qo (Qp (Qq (Qr Qu 0)))))]
def f75_c2:MC:=.r0 f75_r2
def f75_r3:List MO:=[Qa (Qv 9) (Qe Qt Go.BinOp.lss (Qn 8) (Qn 7))]
def f75_c3:MC:=.r0 f75_r3
def f75_r7:List MO:=[Qa (Qv 10) (Qj 1 (Qn 6) (Qn 8)),Qa (Qv 11) (Qf 1 false (Qn 10)),Qa (Qv 5) (Qd (Qn 11))]
def f75_c7:MC:=.r0 f75_r7
def f75_r8:List MO:=[Qa (Qv 12) (Qd (Qn 5)),Qa (Qv 13) (Qh 103 [(Qn 12)]),Qa (Qv 14) (Qe Leaf.s Go.BinOp.add (Qn 13) (Qo (Qp (Qq (D.str (ByteArray.mk #[44])))))),Qa (Qv 15) (Qh 101 [(Qn 3),(Qn 14)])]
def f75_c8:MC:=.r0 f75_r8
def f75_r11:List MO:=[Qa (Qv 16) (Qe Qt Go.BinOp.add (Qn 8) (Qo (Qp (Qq (Qr Qu 1))))),Qa (Qv 8) (Qd (Qn 16))]
def f75_c11:MC:=.r0 f75_r11
def f75_c14:MC:=.seq f75_c3 (.seq (.cond (Qn 9) .skip (MC.exit 0)) (.seq (.blk 1 (.seq f75_c7 f75_c8)) f75_c11))
def f75_r18:List MO:=[Qa (Qv 17) (Qh 102 [(Qn 3)]),Qa (Qv 2) (Qd (Qn 17))]
def f75_c18:MC:=.r0 f75_r18
def f75_c22:MC:=.seq f75_c1 (.seq (.seq f75_c2 (.blk 0 (.loop f75_c14))) (.seq f75_c18 .ret))
def f75_c23:MC:=.seq f75_c0 f75_c22
attribute [go_sem] f75_r0 f75_r1 f75_r2 f75_r3 f75_r7 f75_r8 f75_r11 f75_r18
theorem f75_k : KK QP 75 f75 [] f75_c23 [(RV.t 2)] 18 := by refine ⟨func75,?_,?_,?_,?_⟩<;>kernel_rfl
theorem f75_ok : callable QP 75 = true := by kernel_rfl
theorem f75_in (h : GI QP gp [(RV.t 2)] res 18 f75_c23 args) : Does QP gp 75 args res := f75_k.i f75_ok h
def f97_r0:List MO:=[Qa (Qv 1) (MOp.box (Qn 0)),Qa (Qv 2) (Qd (Qo (Qp (Qq D.nilF))))]
def f97_c0:MC:=.r0 f97_r0
def f97_r1:List MO:=[Qa (Qv 3) (MOp.mkF (Go.Fn.func 125) [(Qn 1)]),Qa (Qv 2) (Qd (Qn 3))]
def f97_c1:MC:=.r0 f97_r1
def f97_c4:MC:=.seq f97_c0 (.seq f97_c1 .ret)
attribute [go_sem] f97_r0 f97_r1
theorem f97_k : KK QP 97 f97 [] f97_c4 [(RV.t 2)] 4 := by refine ⟨func97,?_,?_,?_,?_⟩<;>kernel_rfl
theorem f97_ok : callable QP 97 = true := by kernel_rfl
theorem f97_tri (h : GT QP gp [(RV.t 2)] pre R 4 f97_c4 args) : Tri QP gp 97 args pre R := f97_k.t h
def f125_r1:List MO:=[Qa (Qv 4) (Qf 1 false (Qn 1)),Qa (Qv 5) (MOp.nck (Qn 4)),Qa (Qv 6) (Qg 0 (Qn 5)),Qa (Qv 7) (Qg 1 (Qn 6)),Qa (Qv 8) (Qf 1 false (Qn 7)),Qa (Qv 9) (Qk Qt (Qn 8)),Qa (Qv 10) (Qd (Qo (Qp (Qq (Qr Qu 0)))))]
def f125_c1:MC:=.r0 f125_r1
def f125_r2:List MO:=[Qa (Qv 11) (Qe Qt Go.BinOp.lss (Qn 10) (Qn 9))]
def f125_c2:MC:=.r0 f125_r2
def f125_r6:List MO:=[Qa (Qv 12) (Qd (Qn 10)),Qa (Qv 3) (Qd (Qn 12))]
def f125_c6:MC:=.r0 f125_r6
def f125_r7:List MO:=[Qa (Qv 13) (Qd (Qn 0)),Qa (Qv 14) (Qd (Qn 3)),Qa (Qv 15) (Qf 1 false (Qn 1)),Qa (Qv 16) (Qd (Qn 3)),Qa (Qv 17) (Qh 45 [(Qn 15),(Qn 16)]),Qa (Qv 18) (MOp.callv (Qn 13) [(Qn 14),(Qn 17)]),Qa (Qv 19) (MOp.not (Qn 18))]
def f125_c7:MC:=.r0 f125_r7
def f125_r14:List MO:=[Qa (Qv 20) (Qe Qt Go.BinOp.add (Qn 10) (Qo (Qp (Qq (Qr Qu 1))))),Qa (Qv 10) (Qd (Qn 20))]
def f125_c14:MC:=.r0 f125_r14
def f125_c17:MC:=.seq f125_c2 (.seq (.cond (Qn 11) .skip (MC.exit 0)) (.seq (.blk 1 (.seq f125_c6 (.seq f125_c7 (.cond (Qn 19) (MC.exit 0) .skip)))) f125_c14))
def f125_c22:MC:=.scope (.seq .skip (.seq f125_c1 (.blk 0 (.loop f125_c17))))
attribute [go_sem] f125_r1 f125_r2 f125_r6 f125_r7 f125_r14
theorem f125_k : KK QP 125 f125 [] f125_c22 [] 21 := by refine ⟨func125,?_,?_,?_,?_⟩<;>kernel_rfl
theorem f125_ok : callable QP 125 = true := by kernel_rfl
theorem f125_tri (h : GT QP gp [] pre R 21 f125_c22 args) : Tri QP gp 125 args pre R := f125_k.t h
end Go.Fw.L07
