/- Small codes. -/
import Derived.Test.YtejnfjophhnaeaaGreatDoorFd
import Derived.Test.YtejnfjophhnaeaaGreatDoorProg
set_option linter.all false
namespace Go.Fw.L07
open Go Go.Fw
open Go.Proofs.Tryz renaming prog -> QP
open Go.Proofs.Tryz (f11 f12 f125 f14 f16 f18 f37 f38 f41 f43 f45 f71 f73 f74 f75 f97 func11 func12 func125 func14 func16 func18 func37 func38 func41 func43 func45 func71 func73 func74 func75 func97)
open Go.Fw.MO renaming op -> Qa,chk -> Qb,opx -> Qc
open Go.Fw.MOp renaming mv -> Qd,bin -> Qe,load -> Qf,fad -> Qg,call -> Qh,ext -> Qi,iad -> Qj,len -> Qk,store -> Ql,pick -> Qm
open Go.Fw.Opd renaming t -> Qn,c -> Qo
open Go.Fw.V renaming one -> Qp
open Go.Fw.A renaming d -> Qq
open Go.Fw.D renaming int -> Qr,bool -> Qs
open Go.Fw.Leaf renaming i -> Qt
open Go.IntKind renaming i64 -> Qu
open Option renaming some -> Qv
variable {gp : Heap} {args : List V} {res : V} {pre : List Ch} {R : V -> List Ch -> Prop}
def Ymq:List MO:=[Qa (Qv 3) (MOp.box (Qn 0)),Qa (Qv 4) (MOp.box (Qn 1)),Qa (Qv 5) (MOp.box (Qn 2)),Qa (Qv 6) (Qd (Qo (Qp (Qq (Qs false)))))]
def Wcq:MC:=.r0 Ymq
def Ymr:List MO:=[Qa (Qv 22) (Qh 12 []),Qa (Qv 7) (Qd (Qn 22))]
def Wcr:MC:=.r0 Ymr
def Yms:List MO:=[Qa (Qv 23) (Qf 2 true (Qn 3)),Qa (Qv 24) (Qh 13 [(Qn 23),(Qo (Qp (Qq (Qr Qu 30))))]),Qa none (Ql 2 (Qn 3) (Qn 24))]
def Wcs:MC:=.r0 Yms
def Ymt:List MO:=[Qa (Qv 25) (Qf 2 true (Qn 4)),Qa (Qv 26) (Qh 13 [(Qn 25),(Qo (Qp (Qq (Qr Qu 30))))]),Qa none (Ql 2 (Qn 4) (Qn 26))]
def Wct:MC:=.r0 Ymt
def Ymu:List MO:=[Qa (Qv 27) (Qf 2 true (Qn 5)),Qa (Qv 28) (Qh 13 [(Qn 27),(Qo (Qp (Qq (Qr Qu 30))))]),Qa none (Ql 2 (Qn 5) (Qn 28))]
def Wcu:MC:=.r0 Ymu
def Ymv:List MO:=[Qa (Qv 30) (Qf 2 true (Qn 3)),Qa (Qv 31) (Qh 33 [(Qn 30)]),Qa (Qv 29) (Qd (Qn 31)),Qa (Qv 32) (Qi (Qn 29) 0),Qa (Qv 33) (Qi (Qn 29) 1),Qa (Qv 8) (MOp.alloc [(Qr Qu 0),(D.sl [])]),Qa none (Ql 2 (Qn 8) (Qn 32)),Qa (Qv 9) (Qd (Qn 33))]
def Wcv:MC:=.r0 Ymv
def Ymw:List MO:=[Qa (Qv 34) (Qd (Qn 9)),Qa (Qv 35) (Qe Qt Go.BinOp.neq (Qn 34) (Qo (Qp (Qq (Qr Qu 0)))))]
def Wcw:MC:=.r0 Ymw
def Ymx:List MO:=[Qa (Qv 36) (Qd (Qn 7)),Qa (Qv 6) (Qd (Qn 36))]
def Wcx:MC:=.r0 Ymx
def X9k:List MO:=[Qa (Qv 38) (Qf 2 true (Qn 3)),Qa (Qv 39) (Qf 2 true (Qn 8)),Qa (Qv 40) (Qh 16 [(Qn 38),(Qn 39)]),Qa (Qv 37) (Qd (Qn 40)),Qa (Qv 41) (Qi (Qn 37) 0),Qa (Qv 42) (Qi (Qn 37) 1),Qa (Qv 10) (Qd (Qn 41)),Qa (Qv 11) (Qd (Qn 42))]
def Y14:MC:=.r0 X9k
def X9l:List MO:=[Qa (Qv 44) (Qf 2 true (Qn 3)),Qa (Qv 45) (Qf 2 true (Qn 4)),Qa (Qv 46) (Qh 16 [(Qn 44),(Qn 45)]),Qa (Qv 43) (Qd (Qn 46)),Qa (Qv 47) (Qi (Qn 43) 0),Qa (Qv 48) (Qi (Qn 43) 1),Qa (Qv 12) (Qd (Qn 47)),Qa (Qv 13) (Qd (Qn 48))]
def Y15:MC:=.r0 X9l
def X9m:List MO:=[Qa (Qv 50) (Qf 2 true (Qn 4)),Qa (Qv 51) (Qf 2 true (Qn 3)),Qa (Qv 52) (Qh 16 [(Qn 50),(Qn 51)]),Qa (Qv 49) (Qd (Qn 52)),Qa (Qv 53) (Qi (Qn 49) 0),Qa (Qv 54) (Qi (Qn 49) 1),Qa (Qv 14) (Qd (Qn 53)),Qa (Qv 15) (Qd (Qn 54))]
def Y16:MC:=.r0 X9m
def X9n:List MO:=[Qa (Qv 56) (Qf 2 true (Qn 4)),Qa (Qv 57) (Qf 2 true (Qn 5)),Qa (Qv 58) (Qh 16 [(Qn 56),(Qn 57)]),Qa (Qv 55) (Qd (Qn 58)),Qa (Qv 59) (Qi (Qn 55) 0),Qa (Qv 60) (Qi (Qn 55) 1),Qa (Qv 16) (Qd (Qn 59)),Qa (Qv 17) (Qd (Qn 60))]
def Y17:MC:=.r0 X9n
def X9o:List MO:=[Qa (Qv 62) (Qf 2 true (Qn 3)),Qa (Qv 63) (Qf 2 true (Qn 5)),Qa (Qv 64) (Qh 16 [(Qn 62),(Qn 63)]),Qa (Qv 61) (Qd (Qn 64)),Qa (Qv 65) (Qi (Qn 61) 0),Qa (Qv 66) (Qi (Qn 61) 1),Qa (Qv 18) (Qd (Qn 65)),Qa (Qv 19) (Qd (Qn 66))]
def Y18:MC:=.r0 X9o
def X9p:List MO:=[Qa (Qv 68) (Qf 2 true (Qn 3)),Qa (Qv 69) (Qf 2 true (Qn 4)),Qa (Qv 70) (Qh 34 [(Qn 68),(Qn 69)]),Qa (Qv 67) (Qd (Qn 70)),Qa (Qv 71) (Qi (Qn 67) 0),Qa (Qv 72) (Qi (Qn 67) 1),Qa (Qv 20) (Qd (Qn 71)),Qa (Qv 21) (Qd (Qn 72))]
def Y19:MC:=.r0 X9p
def X9q:List MO:=[Qa (Qv 73) (Qd (Qn 7)),Qa (Qv 74) (Qd (Qn 73)),Qb 74 true (Qv 75),Qa (Qv 75) (Qd (Qn 11)),Qb 74 true (Qv 76),Qa (Qv 76) (Qe Qt Go.BinOp.eql (Qn 75) (Qo (Qp (Qq (Qr Qu 0))))),Qa (Qv 77) (Qm (Qn 74) (Qn 76) (Qo (Qp (Qq (Qs false))))),Qa (Qv 78) (Qd (Qn 77)),Qb 78 true (Qv 79),Qa (Qv 79) (Qd (Qn 10)),Qa (Qv 80) (Qm (Qn 78) (Qn 79) (Qo (Qp (Qq (Qs false))))),Qa (Qv 81) (Qd (Qn 80)),Qb 81 true (Qv 82),Qa (Qv 82) (Qd (Qn 12)),Qb 81 true (Qv 83),Qa (Qv 83) (Qd (Qn 14)),Qb 81 true (Qv 84),Qa (Qv 84) (Qe Leaf.b Go.BinOp.eql (Qn 82) (Qn 83)),Qa (Qv 85) (Qm (Qn 81) (Qn 84) (Qo (Qp (Qq (Qs false))))),Qa (Qv 86) (Qd (Qn 85)),Qb 86 true (Qv 87),Qa (Qv 87) (Qd (Qn 20)),Qb 86 true (Qv 88),Qa (Qv 88) (MOp.not (Qn 87)),Qb 86 true (Qv 89),Qa (Qv 89) (Qd (Qn 88)),Qb 89 false (Qv 90),Qa (Qv 90) (Qd (Qn 12)),Qb 86 true (Qv 91),Qa (Qv 91) (Qm (Qn 89) (Qo (Qp (Qq (Qs true)))) (Qn 90)),Qa (Qv 92) (Qm (Qn 86) (Qn 91) (Qo (Qp (Qq (Qs false))))),Qa (Qv 93) (Qd (Qn 92)),Qb 93 true (Qv 94),Qa (Qv 94) (Qd (Qn 12)),Qb 93 true (Qv 95),Qa (Qv 95) (MOp.not (Qn 94)),Qb 93 true (Qv 96),Qa (Qv 96) (Qd (Qn 95)),Qb 96 false (Qv 97),Qa (Qv 97) (Qd (Qn 16)),Qb 96 false (Qv 98),Qa (Qv 98) (MOp.not (Qn 97)),Qb 93 true (Qv 99),Qa (Qv 99) (Qm (Qn 96) (Qo (Qp (Qq (Qs true)))) (Qn 98)),Qb 93 true (Qv 100),Qa (Qv 100) (Qd (Qn 99)),Qb 100 false (Qv 101),Qa (Qv 101) (Qd (Qn 18)),Qb 93 true (Qv 102),Qa (Qv 102) (Qm (Qn 100) (Qo (Qp (Qq (Qs true)))) (Qn 101)),Qa (Qv 103) (Qm (Qn 93) (Qn 102) (Qo (Qp (Qq (Qs false))))),Qa (Qv 6) (Qd (Qn 103))]
def Y2a:MC:=.r0 X9q
def Y2b:MC:=.seq Y17 (.seq Y18 (.seq Y19 (.seq Y2a .ret)))
def Y2c:MC:=.seq Y14 (.seq Y15 (.seq Y16 Y2b))
def Y2d:MC:=.seq Wcv (.seq (.seq Wcw (.cond (Qn 35) (.seq Wcx .ret) .skip)) Y2c)
def Y2e:MC:=.seq Wcs (.seq Wct (.seq Wcu Y2d))
def X9r:MC:=.seq Wcq (.seq Wcr Y2e)
attribute [go_sem] Ymq Ymr Yms Ymt Ymu Ymv Ymw Ymx X9k X9l X9m X9n X9o X9p X9q
theorem Wg9 : KK QP 11 f11 [] X9r [(RV.t 6)] 104 := by refine ⟨func11,?_,?_,?_,?_⟩<;>kernel_rfl
theorem Wcy : Xaa QP 11 = true := by kernel_rfl
theorem Wcz (h : GI QP gp [(RV.t 6)] res 104 X9r args) : Does QP gp 11 args res := Wg9.i Wcy h
def Ymy:List MO:=[Qa (Qv 0) (Qd (Qo (Qp (Qq (Qs false)))))]
def Wc0:MC:=.r0 Ymy
def Ymz:List MO:=[Qa (Qv 12) (MOp.bslice 1 [(Qr Qu 0)] 1 [(0,(Qo (Qp (Qq (Qr Qu 1)))))]),Qa (Qv 13) (MOp.build [(Qr Qu 0),(Qr Qu 0),(Qr Qu 0),(D.str (ByteArray.mk #[])),(D.sl []),(D.sl [])] [(0,(1,(Qo (Qp (Qq (Qr Qu 1)))))),(5,(1,(Qn 12)))]),Qa (Qv 14) (MOp.bslice 1 [(Qr Qu 0)] 1 [(0,(Qo (Qp (Qq (Qr Qu 0)))))]),Qa (Qv 15) (MOp.build [(Qr Qu 0),(Qr Qu 0),(Qr Qu 0),(D.str (ByteArray.mk #[])),(D.sl []),(D.sl [])] [(0,(1,(Qo (Qp (Qq (Qr Qu 1)))))),(5,(1,(Qn 14)))]),Qa (Qv 16) (MOp.bslice 1 [(Qr Qu 0)] 1 [(0,(Qo (Qp (Qq (Qr Qu 2)))))]),Qa (Qv 17) (MOp.build [(Qr Qu 0),(Qr Qu 0),(Qr Qu 0),(D.str (ByteArray.mk #[])),(D.sl []),(D.sl [])] [(0,(1,(Qo (Qp (Qq (Qr Qu 1)))))),(5,(1,(Qn 16)))]),Qa (Qv 18) (MOp.build [(Qr Qu 0),(Qr Qu 0),(Qr Qu 0),(D.str (ByteArray.mk #[])),(D.sl []),(D.sl [])] [(0,(1,(Qo (Qp (Qq (Qr Qu 1))))))]),Qa (Qv 19) (MOp.bslice 6 [(Qr Qu 0),(Qr Qu 0),(Qr Qu 0),(D.str (ByteArray.mk #[])),(D.sl []),(D.sl [])] 4 [(0,(Qn 13)),(1,(Qn 15)),(2,(Qn 17)),(3,(Qn 18))]),Qa (Qv 20) (MOp.build [(Qr Qu 0),(D.sl [])] [(1,(1,(Qn 19)))]),Qa (Qv 1) (MOp.alloc [(Qr Qu 0),(D.sl [])]),Qa none (Ql 2 (Qn 1) (Qn 20))]
def Wc1:MC:=.r0 Ymz
def Ym0:List MO:=[Qa (Qv 22) (Qf 2 true (Qn 1)),Qa (Qv 23) (Qh 14 [(Qn 22)]),Qa (Qv 21) (Qd (Qn 23)),Qa (Qv 24) (Qi (Qn 21) 0),Qa (Qv 25) (Qi (Qn 21) 1),Qa (Qv 2) (Qd (Qn 24)),Qa (Qv 3) (Qd (Qn 25))]
def Wc2:MC:=.r0 Ym0
def Ym1:List MO:=[Qa (Qv 27) (Qf 2 true (Qn 1)),Qa (Qv 28) (MOp.bslice 1 [(Qr Qu 0)] 1 [(0,(Qo (Qp (Qq (Qr Qu 0)))))]),Qa (Qv 29) (MOp.build [(Qr Qu 0),(Qr Qu 0),(Qr Qu 0),(D.str (ByteArray.mk #[])),(D.sl []),(D.sl [])] [(0,(1,(Qo (Qp (Qq (Qr Qu 1)))))),(5,(1,(Qn 28)))]),Qa (Qv 30) (MOp.bslice 6 [(Qr Qu 0),(Qr Qu 0),(Qr Qu 0),(D.str (ByteArray.mk #[])),(D.sl []),(D.sl [])] 1 [(0,(Qn 29))]),Qa (Qv 31) (MOp.build [(Qr Qu 0),(D.sl [])] [(1,(1,(Qn 30)))]),Qa (Qv 32) (Qh 16 [(Qn 27),(Qn 31)]),Qa (Qv 26) (Qd (Qn 32)),Qa (Qv 33) (Qi (Qn 26) 0),Qa (Qv 34) (Qi (Qn 26) 1),Qa (Qv 4) (Qd (Qn 33)),Qa (Qv 5) (Qd (Qn 34))]
def Wc3:MC:=.r0 Ym1
def Ym2:List MO:=[Qa (Qv 36) (Qf 2 true (Qn 1)),Qa (Qv 37) (MOp.build [(Qr Qu 0),(Qr Qu 0),(Qr Qu 0),(D.str (ByteArray.mk #[])),(D.sl []),(D.sl [])] [(0,(1,(Qo (Qp (Qq (Qr Qu 1))))))]),Qa (Qv 38) (MOp.bslice 6 [(Qr Qu 0),(Qr Qu 0),(Qr Qu 0),(D.str (ByteArray.mk #[])),(D.sl []),(D.sl [])] 1 [(0,(Qn 37))]),Qa (Qv 39) (MOp.build [(Qr Qu 0),(D.sl [])] [(1,(1,(Qn 38)))]),Qa (Qv 40) (Qh 16 [(Qn 36),(Qn 39)]),Qa (Qv 35) (Qd (Qn 40)),Qa (Qv 41) (Qi (Qn 35) 0),Qa (Qv 42) (Qi (Qn 35) 1),Qa (Qv 6) (Qd (Qn 41)),Qa (Qv 7) (Qd (Qn 42))]
def Wc4:MC:=.r0 Ym2
def Ym3:List MO:=[Qa (Qv 44) (Qf 2 true (Qn 1)),Qa (Qv 45) (Qh 18 [(Qn 44),(Qo (Qp (Qq (Qr Qu 0)))),(Qo (Qp (Qq (Qr Qu 3))))]),Qa (Qv 43) (Qd (Qn 45)),Qa (Qv 46) (Qi (Qn 43) 0),Qa (Qv 47) (Qi (Qn 43) 1),Qa (Qv 8) (Qd (Qn 46)),Qa (Qv 9) (Qd (Qn 47))]
def Wc5:MC:=.r0 Ym3
def Ym4:List MO:=[Qa (Qv 49) (MOp.build [(Qr Qu 0),(D.sl [])] []),Qa (Qv 50) (Qh 14 [(Qn 49)]),Qa (Qv 48) (Qd (Qn 50)),Qa (Qv 51) (Qi (Qn 48) 0),Qa (Qv 52) (Qi (Qn 48) 1),Qa (Qv 10) (Qd (Qn 51)),Qa (Qv 11) (Qd (Qn 52))]
def Wc6:MC:=.r0 Ym4
def Ym5:List MO:=[Qa (Qv 53) (Qd (Qn 3)),Qa (Qv 54) (Qe Qt Go.BinOp.eql (Qn 53) (Qo (Qp (Qq (Qr Qu 0))))),Qa (Qv 55) (Qd (Qn 54)),Qb 55 true (Qv 56),Qa (Qv 56) (Qd (Qn 2)),Qb 55 true (Qv 57),Qa (Qv 57) (MOp.bslice 1 [(Qr Qu 0)] 4 [(0,(Qo (Qp (Qq (Qr Qu 0))))),(1,(Qo (Qp (Qq (Qr Qu 0))))),(2,(Qo (Qp (Qq (Qr Qu 0))))),(3,(Qo (Qp (Qq (Qr Qu 1)))))]),Qb 55 true (Qv 58),Qa (Qv 58) (Qh 20 [(Qn 56),(Qn 57)]),Qa (Qv 59) (Qm (Qn 55) (Qn 58) (Qo (Qp (Qq (Qs false))))),Qa (Qv 60) (Qd (Qn 59)),Qb 60 true (Qv 61),Qa (Qv 61) (Qd (Qn 4)),Qa (Qv 62) (Qm (Qn 60) (Qn 61) (Qo (Qp (Qq (Qs false))))),Qa (Qv 63) (Qd (Qn 62)),Qb 63 true (Qv 64),Qa (Qv 64) (Qd (Qn 5)),Qb 63 true (Qv 65),Qa (Qv 65) (Qe Qt Go.BinOp.eql (Qn 64) (Qo (Qp (Qq (Qr Qu 0))))),Qa (Qv 66) (Qm (Qn 63) (Qn 65) (Qo (Qp (Qq (Qs false))))),Qa (Qv 67) (Qd (Qn 66)),Qb 67 true (Qv 68),Qa (Qv 68) (Qd (Qn 6)),Qb 67 true (Qv 69),Qa (Qv 69) (MOp.not (Qn 68)),Qa (Qv 70) (Qm (Qn 67) (Qn 69) (Qo (Qp (Qq (Qs false))))),Qa (Qv 71) (Qd (Qn 70)),Qb 71 true (Qv 72),Qa (Qv 72) (Qd (Qn 7)),Qb 71 true (Qv 73),Qa (Qv 73) (Qe Qt Go.BinOp.eql (Qn 72) (Qo (Qp (Qq (Qr Qu 0))))),Qa (Qv 74) (Qm (Qn 71) (Qn 73) (Qo (Qp (Qq (Qs false))))),Qa (Qv 75) (Qd (Qn 74)),Qb 75 true (Qv 76),Qa (Qv 76) (Qd (Qn 8)),Qb 75 true (Qv 77),Qa (Qv 77) (Qk Qt (Qn 76)),Qb 75 true (Qv 78),Qa (Qv 78) (Qe Qt Go.BinOp.eql (Qn 77) (Qo (Qp (Qq (Qr Qu 0))))),Qa (Qv 79) (Qm (Qn 75) (Qn 78) (Qo (Qp (Qq (Qs false))))),Qa (Qv 80) (Qd (Qn 79)),Qb 80 true (Qv 81),Qa (Qv 81) (Qd (Qn 9)),Qa (Qv 82) (Qm (Qn 80) (Qn 81) (Qo (Qp (Qq (Qs false))))),Qa (Qv 83) (Qd (Qn 82)),Qb 83 true (Qv 84),Qa (Qv 84) (Qd (Qn 11)),Qb 83 true (Qv 85),Qa (Qv 85) (Qe Qt Go.BinOp.eql (Qn 84) (Qo (Qp (Qq (Qr Qu 70))))),Qa (Qv 86) (Qm (Qn 83) (Qn 85) (Qo (Qp (Qq (Qs false))))),Qa (Qv 0) (Qd (Qn 86))]
def Wc7:MC:=.r0 Ym5
def Y2f:MC:=.seq Wc4 (.seq Wc5 (.seq Wc6 (.seq Wc7 .ret)))
def Y2g:MC:=.seq Wc1 (.seq Wc2 (.seq Wc3 Y2f))
def X9s:MC:=.seq Wc0 Y2g
attribute [go_sem] Ymy Ymz Ym0 Ym1 Ym2 Ym3 Ym4 Ym5
theorem Wha : KK QP 12 f12 [] X9s [(RV.t 0)] 87 := by refine ⟨func12,?_,?_,?_,?_⟩<;>kernel_rfl
theorem Wc8 : Xaa QP 12 = true := by kernel_rfl
theorem Wc9 (h : GI QP gp [(RV.t 0)] res 87 X9s args) : Does QP gp 12 args res := Wha.i Wc8 h
def Ym6:List MO:=[Qa (Qv 1) (MOp.ibox (Qn 0)),Qa (Qv 2) (Qd (Qo (Qp A.nil))),Qa (Qv 3) (Qd (Qo (Qp (Qq (Qr Qu 0)))))]
def Wda:MC:=.r0 Ym6
def Ym7:List MO:=[Qa (Qv 7) (Qf 2 true (Qn 1)),Qa (Qv 8) (Qh 36 [(Qn 7)]),Qa (Qv 6) (Qd (Qn 8)),Qa (Qv 9) (Qi (Qn 6) 0),Qa (Qv 10) (Qi (Qn 6) 1),Qa (Qv 4) (Qd (Qn 9)),Qa (Qv 5) (Qd (Qn 10))]
def Wdb:MC:=.r0 Ym7
def Ym8:List MO:=[Qa (Qv 11) (Qd (Qn 5)),Qa (Qv 12) (Qe Qt Go.BinOp.neq (Qn 11) (Qo (Qp (Qq (Qr Qu 0)))))]
def Wdc:MC:=.r0 Ym8
def Ym9:List MO:=[Qa (Qv 13) (Qd (Qn 5)),Qa (Qv 2) (Qd (Qo (Qp A.nil))),Qa (Qv 3) (Qd (Qn 13))]
def Wdd:MC:=.r0 Ym9
def X9t:List MO:=[Qa (Qv 14) (Qf 2 true (Qn 1)),Qa (Qv 15) (Qh 37 [(Qn 14)]),Qa (Qv 16) (Qh 38 [(Qn 15)]),Qa (Qv 2) (Qd (Qn 16)),Qa (Qv 3) (Qd (Qo (Qp (Qq (Qr Qu 0)))))]
def Y2h:MC:=.r0 X9t
def Y2i:MC:=.seq (.seq Wdb (.seq Wdc (.cond (Qn 12) (.seq Wdd .ret) .skip))) (.seq Y2h .ret)
def X9u:MC:=.seq Wda Y2i
attribute [go_sem] Ym6 Ym7 Ym8 Ym9 X9t
theorem Whb : KK QP 14 f14 [1] X9u [(RV.t 2),(RV.t 3)] 17 := by refine ⟨func14,?_,?_,?_,?_⟩<;>kernel_rfl
theorem Wde : Xaa QP 14 = true := by kernel_rfl
theorem Wdf (h : GI QP gp [(RV.t 2),(RV.t 3)] res 17 X9u args) : Does QP gp 14 args res := Whb.i Wde h
def Yna:List MO:=[Qa (Qv 2) (MOp.ibox (Qn 0)),Qa (Qv 3) (MOp.ibox (Qn 1)),Qa (Qv 4) (Qd (Qo (Qp (Qq (Qs false))))),Qa (Qv 5) (Qd (Qo (Qp (Qq (Qr Qu 0)))))]
def Wdg:MC:=.r0 Yna
def Ynb:List MO:=[Qa (Qv 11) (Qf 2 true (Qn 2)),Qa (Qv 12) (Qf 2 true (Qn 3)),Qa (Qv 13) (MOp.bslice 2 [(Qr Qu 0),(D.sl [])] 2 [(0,(Qn 11)),(1,(Qn 12))]),Qa (Qv 14) (Qk Qt (Qn 13)),Qa (Qv 15) (Qd (Qo (Qp (Qq (Qr Qu 0)))))]
def Wdh:MC:=.r0 Ynb
def Ync:List MO:=[Qa (Qv 16) (Qe Qt Go.BinOp.lss (Qn 15) (Qn 14))]
def Wdi:MC:=.r0 Ync
def Ynd:List MO:=[Qa (Qv 17) (Qj 2 (Qn 13) (Qn 15)),Qa (Qv 18) (Qf 2 true (Qn 17)),Qa (Qv 7) (MOp.alloc [(Qr Qu 0),(D.sl [])]),Qa none (Ql 2 (Qn 7) (Qn 18))]
def Wdj:MC:=.r0 Ynd
def Yne:List MO:=[Qa (Qv 20) (Qf 2 true (Qn 7)),Qa (Qv 21) (Qh 36 [(Qn 20)]),Qa (Qv 19) (Qd (Qn 21)),Qa (Qv 22) (Qi (Qn 19) 0),Qa (Qv 23) (Qi (Qn 19) 1),Qa (Qv 8) (Qd (Qn 22)),Qa (Qv 9) (Qd (Qn 23))]
def Wdk:MC:=.r0 Yne
def Ynf:List MO:=[Qa (Qv 24) (Qd (Qn 9)),Qa (Qv 25) (Qe Qt Go.BinOp.neq (Qn 24) (Qo (Qp (Qq (Qr Qu 0)))))]
def Wdl:MC:=.r0 Ynf
def Yng:List MO:=[Qa (Qv 26) (Qd (Qn 9)),Qa (Qv 4) (Qd (Qo (Qp (Qq (Qs false))))),Qa (Qv 5) (Qd (Qn 26))]
def Wdm:MC:=.r0 Yng
def Y2j:MC:=.seq Wdj (.seq Wdk (.seq Wdl (.cond (Qn 25) (.seq Wdm .ret) .skip)))
def X9v:List MO:=[Qa (Qv 27) (Qe Qt Go.BinOp.add (Qn 15) (Qo (Qp (Qq (Qr Qu 1))))),Qa (Qv 15) (Qd (Qn 27))]
def Y2k:MC:=.r0 X9v
def Y2l:MC:=.seq Wdh (.blk 0 (.loop (.seq Wdi (.seq (.cond (Qn 16) .skip (MC.exit 0)) (.seq (.blk 1 Y2j) Y2k)))))
def X9w:List MO:=[Qa (Qv 28) (Qf 2 true (Qn 2)),Qa (Qv 29) (Qf 2 true (Qn 3)),Qa (Qv 30) (Qh 41 [(Qn 28),(Qn 29)]),Qa (Qv 31) (Qh 37 [(Qn 30)]),Qa (Qv 32) (Qh 38 [(Qn 31)]),Qa (Qv 10) (Qd (Qn 32))]
def Y2m:MC:=.r0 X9w
def X9x:List MO:=[Qa (Qv 33) (Qd (Qn 10)),Qa (Qv 34) (Qg 0 (Qn 2)),Qa (Qv 35) (Qf 1 false (Qn 34)),Qa (Qv 36) (Qj 1 (Qn 33) (Qn 35)),Qa (Qv 37) (Qf 1 false (Qn 36)),Qa (Qv 38) (Qd (Qn 10)),Qa (Qv 39) (Qg 0 (Qn 3)),Qa (Qv 40) (Qf 1 false (Qn 39)),Qa (Qv 41) (Qg 1 (Qn 2)),Qa (Qv 42) (Qf 1 false (Qn 41)),Qa (Qv 43) (Qk Qt (Qn 42)),Qa (Qv 44) (Qe Qt Go.BinOp.add (Qn 40) (Qn 43)),Qa (Qv 45) (Qj 1 (Qn 38) (Qn 44)),Qa (Qv 46) (Qf 1 false (Qn 45)),Qa (Qv 47) (Qe Qt Go.BinOp.eql (Qn 37) (Qn 46)),Qa (Qv 4) (Qd (Qn 47)),Qa (Qv 5) (Qd (Qo (Qp (Qq (Qr Qu 0)))))]
def Y2n:MC:=.reg true X9x
def X9y:MC:=.seq Wdg (.seq Y2l (.seq Y2m (.seq Y2n .ret)))
attribute [go_sem] Yna Ynb Ync Ynd Yne Ynf Yng X9v X9w X9x
theorem Whc : KK QP 16 f16 [2,3] X9y [(RV.t 4),(RV.t 5)] 48 := by refine ⟨func16,?_,?_,?_,?_⟩<;>kernel_rfl
theorem Wdn : Xaa QP 16 = true := by kernel_rfl
theorem Wdo (h : GI QP gp [(RV.t 4),(RV.t 5)] res 48 X9y args) : Does QP gp 16 args res := Whc.i Wdn h
def Ynh:List MO:=[Qa (Qv 3) (MOp.ibox (Qn 0)),Qa (Qv 6) (Qd (Qo (Qp A.nil))),Qa (Qv 7) (Qd (Qo (Qp (Qq (Qs false)))))]
def Wdp:MC:=.r0 Ynh
def Yni:List MO:=[Qa (Qv 21) (Qf 2 true (Qn 3)),Qa (Qv 22) (Qh 36 [(Qn 21)]),Qa (Qv 20) (Qd (Qn 22)),Qa (Qv 23) (Qi (Qn 20) 0),Qa (Qv 24) (Qi (Qn 20) 1),Qa (Qv 8) (Qd (Qn 23)),Qa (Qv 9) (Qd (Qn 24))]
def Wdq:MC:=.r0 Yni
def Ynj:List MO:=[Qa (Qv 25) (Qd (Qn 9)),Qa (Qv 26) (Qe Qt Go.BinOp.neq (Qn 25) (Qo (Qp (Qq (Qr Qu 0))))),Qa (Qv 27) (Qd (Qn 26)),Qb 27 false (Qv 28),Qa (Qv 28) (Qd (Qn 1)),Qb 27 false (Qv 29),Qa (Qv 29) (Qe Qt Go.BinOp.lss (Qn 28) (Qo (Qp (Qq (Qr Qu 0))))),Qa (Qv 30) (Qm (Qn 27) (Qo (Qp (Qq (Qs true)))) (Qn 29)),Qa (Qv 31) (Qd (Qn 30)),Qb 31 false (Qv 32),Qa (Qv 32) (Qd (Qn 2)),Qb 31 false (Qv 33),Qa (Qv 33) (Qe Qt Go.BinOp.lss (Qn 32) (Qo (Qp (Qq (Qr Qu 0))))),Qa (Qv 34) (Qm (Qn 31) (Qo (Qp (Qq (Qs true)))) (Qn 33)),Qa (Qv 35) (Qd (Qn 34)),Qb 35 false (Qv 36),Qa (Qv 36) (Qd (Qn 1)),Qb 35 false (Qv 37),Qa (Qv 37) (Qg 1 (Qn 3)),Qb 35 false (Qv 38),Qa (Qv 38) (Qf 1 false (Qn 37)),Qb 35 false (Qv 39),Qa (Qv 39) (Qk Qt (Qn 38)),Qb 35 false (Qv 40),Qa (Qv 40) (Qe Qt Go.BinOp.geq (Qn 36) (Qn 39)),Qa (Qv 41) (Qm (Qn 35) (Qo (Qp (Qq (Qs true)))) (Qn 40)),Qa (Qv 42) (Qd (Qn 41)),Qb 42 false (Qv 43),Qa (Qv 43) (Qd (Qn 2)),Qb 42 false (Qv 44),Qa (Qv 44) (Qg 1 (Qn 3)),Qb 42 false (Qv 45),Qa (Qv 45) (Qf 1 false (Qn 44)),Qb 42 false (Qv 46),Qa (Qv 46) (Qk Qt (Qn 45)),Qb 42 false (Qv 47),Qa (Qv 47) (Qe Qt Go.BinOp.geq (Qn 43) (Qn 46)),Qa (Qv 48) (Qm (Qn 42) (Qo (Qp (Qq (Qs true)))) (Qn 47))]
def Wdr:MC:=.r0 Ynj
def Ynk:List MO:=[Qa (Qv 6) (Qd (Qo (Qp A.nil))),Qa (Qv 7) (Qd (Qo (Qp (Qq (Qs false)))))]
def Wds:MC:=.r0 Ynk
def X9z:List MO:=[Qa (Qv 49) (Qf 2 true (Qn 3)),Qa (Qv 50) (Qh 37 [(Qn 49)]),Qa (Qv 10) (Qd (Qn 50))]
def Y2o:MC:=.r0 X9z
def X90:List MO:=[Qa (Qv 51) (Qd (Qn 1)),Qa (Qv 52) (Qd (Qn 2)),Qa (Qv 53) (MOp.build [(Qr Qu 0),(Qr Qu 0)] [(0,(1,(Qn 51))),(1,(1,(Qn 52)))]),Qa (Qv 54) (MOp.build [(Qr Qu 0),(Qr Qu 0),(D.sl [])] [(0,(2,(Qn 53)))]),Qa none (Qd (Qo (Qp A.nil))),Qa (Qv 56) MOp.mkM,Qa (Qv 57) (Qd (Qn 1)),Qa (Qv 58) (Qd (Qn 2)),Qa (Qv 59) (MOp.build [(Qr Qu 0),(Qr Qu 0)] [(0,(1,(Qn 57))),(1,(1,(Qn 58)))]),Qa none (MOp.mupd true [Qt,Qt] (Qn 56) (Qn 59) (Qo (Qp (Qq (Qs true))))),Qa (Qv 60) (Qd (Qn 56)),Qa (Qv 55) (MOp.bslO 3 [(Qr Qu 0),(Qr Qu 0),(D.sl [])] 1 [(0,(Qn 54))]),Qa (Qv 11) (MOp.alloc [(D.sl [])]),Qa none (Ql 1 (Qn 11) (Qn 55)),Qa (Qv 12) (MOp.alloc [(D.raw (Go.Value.map none))]),Qa none (Ql 1 (Qn 12) (Qn 60))]
def Y2p:MC:=.regw X90
def X91:List MO:=[Qa (Qv 61) (MOp.mkF (Go.Fn.func 43) [(Qn 12),(Qn 11)]),Qa (Qv 13) (Qd (Qn 61))]
def Y2q:MC:=.r0 X91
def X92:List MO:=[Qa (Qv 62) (Qf 1 false (Qn 11)),Qa (Qv 63) (Qk Qt (Qn 62)),Qa (Qv 64) (Qe Qt Go.BinOp.gtr (Qn 63) (Qo (Qp (Qq (Qr Qu 0)))))]
def Y2r:MC:=.r0 X92
def X93:List MO:=[Qa (Qv 65) (Qf 1 false (Qn 11)),Qa (Qv 66) (Qj 3 (Qn 65) (Qo (Qp (Qq (Qr Qu 0))))),Qa (Qv 67) (Qf 3 true (Qn 66)),Qa (Qv 14) (MOp.alloc [(Qr Qu 0),(Qr Qu 0),(D.sl [])]),Qa none (Ql 3 (Qn 14) (Qn 67))]
def Y2s:MC:=.r0 X93
def X94:List MO:=[Qa (Qv 68) (Qf 1 false (Qn 11)),Qa (Qv 69) (MOp.slc 3 (Qn 68) (Qv (Qo (Qp (Qq (Qr Qu 1))))) none),Qa none (Ql 1 (Qn 11) (Qn 69))]
def Y2t:MC:=.r0 X94
def X95:List MO:=[Qa (Qv 70) (Qd (Qn 10)),Qa (Qv 71) (Qg 0 (Qn 14)),Qa (Qv 72) (Qg 0 (Qn 71)),Qa (Qv 73) (Qf 1 false (Qn 72)),Qa (Qv 74) (Qh 45 [(Qn 70),(Qn 73)]),Qa (Qv 75) (Qd (Qn 10)),Qa (Qv 76) (Qg 0 (Qn 14)),Qa (Qv 77) (Qg 1 (Qn 76)),Qa (Qv 78) (Qf 1 false (Qn 77)),Qc (Qv 79) (Qh 45 [(Qn 75),(Qn 78)]),Qa (Qv 80) (MOp.eqs true [Qt,Qt,Qt,Leaf.s,Leaf.s,Leaf.s] (Qn 74) (Qn 79))]
def Y2u:MC:=.reg true X95
def X96:List MO:=[Qa (Qv 81) (Qg 2 (Qn 14)),Qa (Qv 82) (Qf 1 false (Qn 81)),Qa (Qv 6) (Qd (Qn 82)),Qa (Qv 7) (Qd (Qo (Qp (Qq (Qs true)))))]
def Y2v:MC:=.r0 X96
def X97:List MO:=[Qa (Qv 84) (Qf 2 true (Qn 3)),Qa (Qv 85) (Qg 0 (Qn 14)),Qa (Qv 86) (Qg 0 (Qn 85)),Qa (Qv 87) (Qf 1 false (Qn 86)),Qa (Qv 88) (Qh 21 [(Qn 84),(Qn 87)]),Qa (Qv 83) (Qd (Qn 88)),Qa (Qv 89) (Qi (Qn 83) 0),Qa (Qv 90) (Qi (Qn 83) 1),Qa (Qv 15) (Qd (Qn 89)),Qa (Qv 16) (Qd (Qn 90))]
def Y2w:MC:=.r0 X97
def X98:List MO:=[Qa (Qv 92) (Qf 2 true (Qn 3)),Qa (Qv 93) (Qg 0 (Qn 14)),Qa (Qv 94) (Qg 1 (Qn 93)),Qa (Qv 95) (Qf 1 false (Qn 94)),Qa (Qv 96) (Qh 21 [(Qn 92),(Qn 95)]),Qa (Qv 91) (Qd (Qn 96)),Qa (Qv 97) (Qi (Qn 91) 0),Qa (Qv 98) (Qi (Qn 91) 1),Qa (Qv 17) (Qd (Qn 97)),Qa (Qv 18) (Qd (Qn 98))]
def Y2x:MC:=.r0 X98
def X99:List MO:=[Qa (Qv 99) (Qd (Qn 15)),Qa (Qv 100) (Qk Qt (Qn 99)),Qa (Qv 101) (Qd (Qo (Qp (Qq (Qr Qu 0)))))]
def Y2y:MC:=.r0 X99
def Yaa:List MO:=[Qa (Qv 102) (Qe Qt Go.BinOp.lss (Qn 101) (Qn 100))]
def Y2z:MC:=.r0 Yaa
def Yab:List MO:=[Qa (Qv 103) (Qd (Qn 101)),Qa (Qv 19) (Qd (Qn 103))]
def Y20:MC:=.r0 Yab
def Yac:List MO:=[Qa (Qv 104) (Qd (Qn 13)),Qa (Qv 105) (Qf 3 true (Qn 14)),Qa (Qv 106) (Qd (Qn 19)),Qa (Qv 107) (Qd (Qn 15)),Qa (Qv 108) (Qd (Qn 19)),Qa (Qv 109) (Qj 1 (Qn 107) (Qn 108)),Qa (Qv 110) (Qf 1 false (Qn 109)),Qa (Qv 111) (Qd (Qn 17)),Qa (Qv 112) (Qd (Qn 19)),Qa (Qv 113) (Qj 1 (Qn 111) (Qn 112)),Qa (Qv 114) (Qf 1 false (Qn 113)),Qa (Qv 115) (MOp.build [(Qr Qu 0),(Qr Qu 0)] [(0,(1,(Qn 110))),(1,(1,(Qn 114)))]),Qc (Qv 116) (MOp.callv (Qn 104) [(Qn 105),(Qn 106),(Qn 115)])]
def Y21:MC:=.reg true Yac
def Yad:List MO:=[Qa (Qv 117) (Qe Qt Go.BinOp.add (Qn 101) (Qo (Qp (Qq (Qr Qu 1))))),Qa (Qv 101) (Qd (Qn 117))]
def Y22:MC:=.r0 Yad
def Y23:MC:=.seq Y2z (.seq (.cond (Qn 102) .skip (MC.exit 2)) (.seq (.blk 3 (.seq Y20 Y21)) Y22))
def Y24:MC:=.seq Y2w (.seq Y2x (.seq Y2y (.blk 2 (.loop Y23))))
def Y25:MC:=.seq Y2t (.seq (.seq Y2u (.cond (Qn 80) (.seq Y2v .ret) .skip)) Y24)
def Yae:List MO:=[Qa (Qv 6) (Qd (Qo (Qp A.nil))),Qa (Qv 7) (Qd (Qo (Qp (Qq (Qs false)))))]
def Y26:MC:=.r0 Yae
def Y27:MC:=.seq (.blk 0 (.loop (.seq (.seq Y2r (.cond (Qn 64) .skip (MC.exit 0))) (.blk 1 (.seq Y2s Y25))))) (.seq Y26 .ret)
def Y28:MC:=.seq Y2o (.seq Y2p (.seq Y2q Y27))
def Y29:MC:=.seq (.seq Wdq (.seq Wdr (.cond (Qn 48) (.seq Wds .ret) .skip))) Y28
def Yaf:MC:=.seq Wdp Y29
attribute [go_sem] Ynh Yni Ynj Ynk X9z X90 X91 X92 X93 X94 X95 X96 X97 X98 X99 Yaa Yab Yac Yad Yae
theorem Whd : KK QP 18 f18 [3,55] Yaf [(RV.t 6),(RV.t 7)] 118 := by refine ⟨func18,?_,?_,?_,?_⟩<;>kernel_rfl
theorem Wdt : Xaa QP 18 = true := by kernel_rfl
theorem Wdu (h : GI QP gp [(RV.t 6),(RV.t 7)] res 118 Yaf args) : Does QP gp 18 args res := Whd.i Wdt h
def Ynl:List MO:=[Qa (Qv 1) (MOp.ibox (Qn 0)),Qa (Qv 2) (Qd (Qo (Qp (Qq D.nilP))))]
def Wdv:MC:=.r0 Ynl
def Ynm:List MO:=[Qa (Qv 3) (Qf 2 true (Qn 1)),Qa (Qv 4) (Qg 1 (Qn 1)),Qa (Qv 5) (Qf 1 false (Qn 4)),Qa (Qv 6) (Qk Qt (Qn 5)),Qa (Qv 7) (MOp.mkS 1 8 [(Qr Qu 0)] (Qn 6)),Qa (Qv 8) (MOp.build [(Qr Qu 0),(D.sl []),(D.sl [])] [(0,(2,(Qn 3))),(2,(1,(Qn 7)))]),Qa (Qv 9) (MOp.box (Qn 8)),Qa (Qv 2) (Qd (Qn 9))]
def Wdw:MC:=.reg true Ynm
def Ynn:MC:=.seq Wdv (.seq Wdw .ret)
attribute [go_sem] Ynl Ynm
theorem Whe : KK QP 37 f37 [1] Ynn [(RV.t 2)] 10 := by refine ⟨func37,?_,?_,?_,?_⟩<;>kernel_rfl
theorem Yag : Xaa QP 37 = true := by kernel_rfl
theorem Y3a (h : GT QP gp [(RV.t 2)] pre R 10 Ynn args) : Tri QP gp 37 args pre R := Whe.t h
def Yno:List MO:=[Qa (Qv 2) (Qd (Qo (Qp A.nil)))]
def Wdx:MC:=.r0 Yno
def Ynp:List MO:=[Qa (Qv 6) (Qd (Qn 0)),Qa (Qv 7) (MOp.mkMv (Go.Fn.func 71) (Qn 6)),Qa (Qv 3) (Qd (Qn 7))]
def Wdy:MC:=.r0 Ynp
def Ynq:List MO:=[Qa (Qv 8) (Qd (Qn 3)),Qa (Qv 9) (MOp.callv (Qn 8) []),Qa (Qv 4) (Qd (Qo (Qp (Qq (Qr Qu 0))))),Qa (Qv 5) (Qd (Qn 9))]
def Wdz:MC:=.r0 Ynq
def Ynr:List MO:=[Qa (Qv 10) (Qd (Qn 5)),Qa (Qv 11) (Qd (Qn 4)),Qa (Qv 12) (Qe Qt Go.BinOp.gtr (Qn 10) (Qn 11))]
def Wd0:MC:=.r0 Ynr
def Yns:List MO:=[Qa (Qv 13) (Qd (Qn 5)),Qa (Qv 14) (Qd (Qn 3)),Qa (Qv 15) (MOp.callv (Qn 14) []),Qa (Qv 4) (Qd (Qn 13)),Qa (Qv 5) (Qd (Qn 15))]
def Wd1:MC:=.r0 Yns
def Yah:List MO:=[Qa (Qv 16) (Qd (Qn 0)),Qa (Qv 17) (MOp.nck (Qn 16)),Qa (Qv 18) (Qg 2 (Qn 17)),Qa (Qv 19) (Qf 1 false (Qn 18)),Qa (Qv 2) (Qd (Qn 19))]
def Y3b:MC:=.r0 Yah
def Y3c:MC:=.seq (.seq Wdz (.blk 0 (.loop (.seq (.seq Wd0 (.cond (Qn 12) .skip (MC.exit 0))) (.blk 1 Wd1))))) (.seq Y3b .ret)
def Yai:MC:=.seq Wdx (.seq Wdy Y3c)
attribute [go_sem] Yno Ynp Ynq Ynr Yns Yah
theorem Whf : KK QP 38 f38 [] Yai [(RV.t 2)] 20 := by refine ⟨func38,?_,?_,?_,?_⟩<;>kernel_rfl
theorem Ynt : Xaa QP 38 = true := by kernel_rfl
theorem Y3d (h : GT QP gp [(RV.t 2)] pre R 20 Yai args) : Tri QP gp 38 args pre R := Whf.t h
def Xcy:List MO:=[Qa (Qv 2) (MOp.ibox (Qn 0)),Qa (Qv 3) (MOp.ibox (Qn 1)),Qa (Qv 4) (MOp.alloc [(Qr Qu 0),(D.sl [])])]
def Wd2:MC:=.r0 Xcy
def Xcz:List MO:=[Qa (Qv 9) (Qg 0 (Qn 2)),Qa (Qv 10) (Qf 1 false (Qn 9)),Qa (Qv 11) (Qg 1 (Qn 2)),Qa (Qv 12) (Qf 1 false (Qn 11)),Qa (Qv 13) (MOp.callN 73 [(Qn 12)]),Qa (Qv 14) (MOp.build [(Qr Qu 0),(D.sl [])] [(0,(1,(Qn 10))),(1,(1,(Qn 13)))]),Qa (Qv 5) (MOp.alloc [(Qr Qu 0),(D.sl [])]),Qa none (Ql 2 (Qn 5) (Qn 14))]
def Wd3:MC:=.regw Xcz
def Xc0:List MO:=[Qa (Qv 15) (Qg 1 (Qn 3)),Qa (Qv 16) (Qf 1 false (Qn 15)),Qa (Qv 17) (Qk Qt (Qn 16)),Qa (Qv 18) (Qd (Qo (Qp (Qq (Qr Qu 0)))))]
def Wd4:MC:=.r0 Xc0
def Xcm:List MO:=[Qa (Qv 19) (Qe Qt Go.BinOp.lss (Qn 18) (Qn 17))]
def Wd5:MC:=.r0 Xcm
def Xc1:List MO:=[Qa (Qv 20) (Qj 6 (Qn 16) (Qn 18)),Qa (Qv 21) (Qf 6 true (Qn 20)),Qa (Qv 7) (MOp.alloc [(Qr Qu 0),(Qr Qu 0),(Qr Qu 0),(D.str (ByteArray.mk #[])),(D.sl []),(D.sl [])]),Qa none (Ql 6 (Qn 7) (Qn 21))]
def Wd6:MC:=.r0 Xc1
def Xc2:List MO:=[Qa (Qv 22) (Qg 5 (Qn 7)),Qa (Qv 23) (Qf 1 false (Qn 22)),Qa (Qv 24) (Qh 44 [(Qn 23)]),Qa (Qv 25) (Qg 5 (Qn 7)),Qa none (Ql 1 (Qn 25) (Qn 24))]
def Wd7:MC:=.r0 Xc2
def Xc3:List MO:=[Qa (Qv 26) (Qg 5 (Qn 7)),Qa (Qv 27) (Qf 1 false (Qn 26)),Qa (Qv 28) (Qk Qt (Qn 27)),Qa (Qv 29) (Qd (Qo (Qp (Qq (Qr Qu 0)))))]
def Wd8:MC:=.r0 Xc3
def Xbu:List MO:=[Qa (Qv 30) (Qe Qt Go.BinOp.lss (Qn 29) (Qn 28))]
def Y3e:MC:=.r0 Xbu
def Xbv:List MO:=[Qa (Qv 31) (Qd (Qn 29)),Qa (Qv 8) (Qd (Qn 31))]
def Y3f:MC:=.r0 Xbv
def Xbw:List MO:=[Qa (Qv 32) (Qg 5 (Qn 7)),Qa (Qv 33) (Qf 1 false (Qn 32)),Qa (Qv 34) (Qd (Qn 8)),Qa (Qv 35) (Qj 1 (Qn 33) (Qn 34)),Qa (Qv 36) (Qf 1 false (Qn 35)),Qa (Qv 37) (Qg 1 (Qn 2)),Qa (Qv 38) (Qf 1 false (Qn 37)),Qa (Qv 39) (Qk Qt (Qn 38)),Qa (Qv 40) (Qe Qt Go.BinOp.add (Qn 36) (Qn 39)),Qa (Qv 41) (Qj 1 (Qn 33) (Qn 34)),Qa none (Ql 1 (Qn 41) (Qn 40))]
def Y3g:MC:=.reg true Xbw
def Xbx:List MO:=[Qa (Qv 42) (Qe Qt Go.BinOp.add (Qn 29) (Qo (Qp (Qq (Qr Qu 1))))),Qa (Qv 29) (Qd (Qn 42))]
def Y3h:MC:=.r0 Xbx
def Y3i:MC:=.seq Y3e (.seq (.cond (Qn 30) .skip (MC.exit 2)) (.seq (.blk 3 (.seq Y3f Y3g)) Y3h))
def Xby:List MO:=[Qa (Qv 43) (Qg 1 (Qn 5)),Qa (Qv 44) (Qf 1 false (Qn 43)),Qa (Qv 45) (Qf 6 true (Qn 7)),Qa (Qv 46) (MOp.bslice 6 [(Qr Qu 0),(Qr Qu 0),(Qr Qu 0),(D.str (ByteArray.mk #[])),(D.sl []),(D.sl [])] 1 [(0,(Qn 45))]),Qa (Qv 47) (MOp.app 44 6 88 (Qn 44) (Qn 46)),Qa (Qv 48) (Qg 1 (Qn 5)),Qa none (Ql 1 (Qn 48) (Qn 47))]
def Y3j:MC:=.r0 Xby
def Y3k:MC:=.seq Wd7 (.seq (.seq Wd8 (.blk 2 (.loop Y3i))) Y3j)
def Xbz:List MO:=[Qa (Qv 49) (Qe Qt Go.BinOp.add (Qn 18) (Qo (Qp (Qq (Qr Qu 1))))),Qa (Qv 18) (Qd (Qn 49))]
def Y3l:MC:=.r0 Xbz
def Y3m:MC:=.seq Wd5 (.seq (.cond (Qn 19) .skip (MC.exit 0)) (.seq (.blk 1 (.seq Wd6 Y3k)) Y3l))
def Xb0:List MO:=[Qa (Qv 50) (Qf 2 true (Qn 5)),Qa none (Ql 2 (Qn 4) (Qn 50))]
def Y3n:MC:=.r0 Xb0
def Y3o:MC:=.seq Wd3 (.seq (.seq Wd4 (.blk 0 (.loop Y3m))) (.seq Y3n .ret))
def Yaj:MC:=.seq Wd2 Y3o
theorem Whg : KK QP 41 f41 [2,3,3013] Yaj [(RV.cell 4 2 true)] 51 := by refine ⟨func41,?_,?_,?_,?_⟩<;>kernel_rfl
theorem Wd9 : Xaa QP 41 = true := by kernel_rfl
theorem Wea (h : GI QP gp [(RV.cell 4 2 true)] res 51 Yaj args) : Does QP gp 41 args res := Whg.i Wd9 h
def Ynu:List MO:=[Qa (Qv 5) (MOp.box (Qn 0)),Qa (Qv 7) (MOp.box (Qn 2))]
def Web:MC:=.r0 Ynu
def Ynv:List MO:=[Qa (Qv 8) (Qf 1 false (Qn 3)),Qa (Qv 9) (Qf 2 true (Qn 7)),Qa (Qv 10) (MOp.lkp false (Qp (Qq (Qs false))) true [Qt,Qt] (Qn 8) (Qn 9)),Qa (Qv 11) (MOp.not (Qn 10))]
def Wec:MC:=.r0 Ynv
def Ynw:List MO:=[Qa (Qv 12) (Qf 1 false (Qn 3)),Qa (Qv 13) (Qf 2 true (Qn 7)),Qa none (MOp.mupd true [Qt,Qt] (Qn 12) (Qn 13) (Qo (Qp (Qq (Qs true)))))]
def Wed:MC:=.r0 Ynw
def Ynx:List MO:=[Qa (Qv 14) (MOp.cld 1 false (Qn 4)),Qa (Qv 15) (MOp.cld 2 true (Qn 7)),Qa (Qv 16) (Qg 2 (Qn 5)),Qa (Qv 17) (MOp.cld 1 false (Qn 16)),Qa (Qv 18) (MOp.callN 44 [(Qn 17)]),Qa (Qv 19) (Qd (Qn 1)),Qa (Qv 20) (MOp.bslice 1 [(Qr Qu 0)] 1 [(0,(Qn 19))]),Qa (Qv 21) (MOp.appF 3 1 8 (Qn 18) (Qn 20)),Qa (Qv 22) (MOp.build [(Qr Qu 0),(Qr Qu 0),(D.sl [])] [(0,(2,(Qn 15))),(2,(1,(Qn 21)))]),Qa (Qv 23) (MOp.bslice 3 [(Qr Qu 0),(Qr Qu 0),(D.sl [])] 1 [(0,(Qn 22))]),Qa (Qv 24) (MOp.app 68 3 40 (Qn 14) (Qn 23)),Qa none (Ql 1 (Qn 4) (Qn 24))]
def Wee:MC:=.reg true Ynx
def Yny:MC:=.seq Web (.seq Wec (.cond (Qn 11) (.seq Wed Wee) .skip))
attribute [go_sem] Ynu Ynv Ynw Ynx
theorem Whh : KK QP 43 f43 [3018,4021,2000] Yny [] 25 := by refine ⟨func43,?_,?_,?_,?_⟩<;>kernel_rfl
theorem Ynz : Xaa QP 43 = true := by kernel_rfl
theorem Y3p (h : GT QP gp [] pre R 25 Yny args) : Tri QP gp 43 args pre R := Whh.t h
def Yn0:List MO:=[Qa (Qv 4) (MOp.alloc [(Qr Qu 0),(Qr Qu 0),(Qr Qu 0),(D.str (ByteArray.mk #[])),(D.str (ByteArray.mk #[])),(D.str (ByteArray.mk #[]))])]
def Wef:MC:=.r0 Yn0
def Yn1:List MO:=[Qa (Qv 10) (Qd (Qn 0)),Qa (Qv 11) (MOp.nck (Qn 10)),Qa (Qv 12) (Qg 0 (Qn 11)),Qa (Qv 13) (Qf 2 true (Qn 12)),Qa (Qv 14) (Qd (Qn 1)),Qa (Qv 15) (Qh 21 [(Qn 13),(Qn 14)]),Qa (Qv 9) (Qd (Qn 15)),Qa (Qv 16) (Qi (Qn 9) 0),Qa (Qv 17) (Qi (Qn 9) 1),Qa (Qv 5) (Qd (Qn 16)),Qa (Qv 6) (Qd (Qn 17))]
def Weg:MC:=.r0 Yn1
def Yn2:List MO:=[Qa (Qv 18) (Qd (Qn 5)),Qa (Qv 19) (Qk Qt (Qn 18)),Qa (Qv 20) (Qd (Qo (Qp (Qq (Qr Qu 0)))))]
def Weh:MC:=.r0 Yn2
def Yn3:List MO:=[Qa (Qv 21) (Qe Qt Go.BinOp.lss (Qn 20) (Qn 19))]
def Wei:MC:=.r0 Yn3
def Yn4:List MO:=[Qa (Qv 22) (Qd (Qn 20)),Qa (Qv 23) (Qj 1 (Qn 18) (Qn 20)),Qa (Qv 24) (Qf 1 false (Qn 23)),Qa (Qv 7) (Qd (Qn 22)),Qa (Qv 8) (Qd (Qn 24))]
def Wej:MC:=.r0 Yn4
def Yn5:List MO:=[Qa (Qv 25) (Qd (Qn 5)),Qa (Qv 26) (Qd (Qn 7)),Qa (Qv 27) (Qd (Qn 0)),Qa (Qv 28) (MOp.nck (Qn 27)),Qa (Qv 29) (Qg 2 (Qn 28)),Qa (Qv 30) (Qf 1 false (Qn 29)),Qa (Qv 31) (Qd (Qn 8)),Qa (Qv 32) (Qj 1 (Qn 30) (Qn 31)),Qa (Qv 33) (Qf 1 false (Qn 32)),Qa (Qv 34) (Qj 1 (Qn 25) (Qn 26)),Qa none (Ql 1 (Qn 34) (Qn 33))]
def Wek:MC:=.r0 Yn5
def Yak:List MO:=[Qa (Qv 35) (Qe Qt Go.BinOp.add (Qn 20) (Qo (Qp (Qq (Qr Qu 1))))),Qa (Qv 20) (Qd (Qn 35))]
def Y3q:MC:=.r0 Yak
def Y3r:MC:=.seq Wei (.seq (.cond (Qn 21) .skip (MC.exit 0)) (.seq (.blk 1 (.seq Wej Wek)) Y3q))
def Yal:List MO:=[Qa (Qv 36) (Qd (Qn 0)),Qa (Qv 37) (MOp.nck (Qn 36)),Qa (Qv 38) (Qg 0 (Qn 37)),Qa (Qv 39) (Qg 1 (Qn 38)),Qa (Qv 40) (Qf 1 false (Qn 39)),Qa (Qv 41) (Qd (Qn 1)),Qa (Qv 42) (Qj 6 (Qn 40) (Qn 41)),Qa (Qv 43) (Qg 0 (Qn 42)),Qa (Qv 44) (Qf 1 false (Qn 43)),Qa (Qv 45) (Qd (Qn 0)),Qa (Qv 46) (MOp.nck (Qn 45)),Qa (Qv 47) (Qg 0 (Qn 46)),Qa (Qv 48) (Qg 1 (Qn 47)),Qa (Qv 49) (Qf 1 false (Qn 48)),Qa (Qv 50) (Qd (Qn 1)),Qa (Qv 51) (Qj 6 (Qn 49) (Qn 50)),Qa (Qv 52) (Qg 1 (Qn 51)),Qa (Qv 53) (Qf 3 true (Qn 52)),Qa (Qv 54) (Qd (Qn 0)),Qa (Qv 55) (Qd (Qn 1)),Qa (Qv 56) (Qh 74 [(Qn 54),(Qn 55)]),Qa (Qv 57) (Qd (Qn 5)),Qa (Qv 58) (Qh 75 [(Qn 57)]),Qa (Qv 59) (MOp.build [(Qr Qu 0),(Qr Qu 0),(Qr Qu 0),(D.str (ByteArray.mk #[])),(D.str (ByteArray.mk #[])),(D.str (ByteArray.mk #[]))] [(0,(1,(Qn 44))),(1,(3,(Qn 53))),(4,(1,(Qn 56))),(5,(1,(Qn 58)))]),Qa none (Ql 6 (Qn 4) (Qn 59))]
def Y3s:MC:=.reg true Yal
def Y3t:MC:=.seq Weg (.seq (.seq Weh (.blk 0 (.loop Y3r))) (.seq Y3s .ret))
def Yam:MC:=.seq Wef Y3t
attribute [go_sem] Yn0 Yn1 Yn2 Yn3 Yn4 Yn5 Yak Yal
theorem Whi : KK QP 45 f45 [] Yam [(RV.cell 4 6 true)] 60 := by refine ⟨func45,?_,?_,?_,?_⟩<;>kernel_rfl
theorem Wel : Xaa QP 45 = true := by kernel_rfl
theorem Wem (h : GI QP gp [(RV.cell 4 6 true)] res 60 Yam args) : Does QP gp 45 args res := Whi.i Wel h
def Yn6:List MO:=[Qa (Qv 2) (Qd (Qo (Qp (Qq (Qr Qu 0)))))]
def Wen:MC:=.r0 Yn6
def Yn7:List MO:=[Qa (Qv 9) MOp.mkM,Qa (Qv 3) (MOp.alloc [(D.raw (Go.Value.map none))]),Qa none (Ql 1 (Qn 3) (Qn 9))]
def Weo:MC:=.r0 Yn7
def Yn8:List MO:=[Qa (Qv 10) (Qd (Qn 0)),Qa (Qv 11) (MOp.nck (Qn 10)),Qa (Qv 12) (Qg 2 (Qn 11)),Qa (Qv 13) (Qf 1 false (Qn 12)),Qa (Qv 14) (Qk Qt (Qn 13)),Qa (Qv 15) (MOp.mkS 1 8 [(Qr Qu 0)] (Qn 14)),Qa (Qv 4) (MOp.alloc [(D.sl [])]),Qa none (Ql 1 (Qn 4) (Qn 15))]
def Wep:MC:=.r0 Yn8
def Yn9:List MO:=[Qa (Qv 16) (Qd (Qn 0)),Qa (Qv 17) (Qh 97 [(Qn 16)])]
def Weq:MC:=.r0 Yn9
def Yoa:List MO:=[Qa (Qv 5) (Qd (Qn 18))]
def Wer:MC:=.r0 Yoa
def Yob:List MO:=[Qa (Qv 6) (MOp.alloc [(Qr Qu 0),(Qr Qu 0),(Qr Qu 0),(D.str (ByteArray.mk #[])),(D.str (ByteArray.mk #[])),(D.str (ByteArray.mk #[]))]),Qa none (Ql 6 (Qn 6) (Qn 19))]
def Wes:MC:=.r0 Yob
def Yoc:List MO:=[Qa (Qv 21) (Qf 1 false (Qn 3)),Qa (Qv 22) (Qf 6 true (Qn 6)),Qa (Qv 23) (MOp.lkp true (Qp (Qq (Qr Qu 0))) true [Qt,Qt,Qt,Leaf.s,Leaf.s,Leaf.s] (Qn 21) (Qn 22)),Qa (Qv 20) (Qd (Qn 23)),Qa (Qv 24) (Qi (Qn 20) 0),Qa (Qv 25) (Qi (Qn 20) 1),Qa (Qv 7) (Qd (Qn 24)),Qa (Qv 8) (Qd (Qn 25))]
def Wet:MC:=.r0 Yoc
def Yod:List MO:=[Qa (Qv 26) (Qd (Qn 8)),Qa (Qv 27) (MOp.not (Qn 26))]
def Weu:MC:=.r0 Yod
def Yoe:List MO:=[Qa (Qv 28) (Qf 1 false (Qn 3)),Qa (Qv 29) (Qf 6 true (Qn 6)),Qa (Qv 30) (Qf 1 false (Qn 3)),Qa (Qv 31) (Qk Leaf.b (Qn 30)),Qa none (MOp.mupd true [Qt,Qt,Qt,Leaf.s,Leaf.s,Leaf.s] (Qn 28) (Qn 29) (Qn 31))]
def Wev:MC:=.r0 Yoe
def Yan:List MO:=[Qa (Qv 32) (Qf 1 false (Qn 4)),Qa (Qv 33) (Qd (Qn 5)),Qa (Qv 34) (Qf 1 false (Qn 3)),Qa (Qv 35) (Qf 6 true (Qn 6)),Qa (Qv 36) (MOp.lkp false (Qp (Qq (Qr Qu 0))) true [Qt,Qt,Qt,Leaf.s,Leaf.s,Leaf.s] (Qn 34) (Qn 35)),Qa (Qv 37) (Qj 1 (Qn 32) (Qn 33)),Qa none (Ql 1 (Qn 37) (Qn 36))]
def Y3u:MC:=.reg true Yan
def Y3v:MC:=.seq (.seq Wet (.seq Weu (.cond (Qn 27) Wev .skip))) Y3u
def Y3w:MC:=.rf (Qn 17) [18,19] (.seq Wer Wes) (.blk 1 Y3v)
def Yao:List MO:=[Qa (Qv 38) (Qd (Qn 0)),Qa (Qv 39) (MOp.nck (Qn 38)),Qa (Qv 40) (Qg 2 (Qn 39)),Qa (Qv 41) (Qf 1 false (Qn 40)),Qa (Qv 42) (Qf 1 false (Qn 4)),Qa (Qv 43) (MOp.cpy 1 (Qn 41) (Qn 42))]
def Y3x:MC:=.reg true Yao
def Yap:List MO:=[Qa (Qv 44) (Qf 1 false (Qn 3)),Qa (Qv 45) (Qk Leaf.b (Qn 44)),Qa (Qv 2) (Qd (Qn 45))]
def Y3y:MC:=.r0 Yap
def Y3z:MC:=.seq (.seq Weq (.blk 0 Y3w)) (.seq Y3x (.seq Y3y .ret))
def Yaq:MC:=.seq Wen (.seq Weo (.seq Wep Y3z))
attribute [go_sem] Yn6 Yn7 Yn8 Yn9 Yoa Yob Yoc Yod Yoe Yan Yao Yap
theorem Whj : KK QP 71 f71 [] Yaq [(RV.t 2)] 46 := by refine ⟨func71,?_,?_,?_,?_⟩<;>kernel_rfl
theorem Yof : Xaa QP 71 = true := by kernel_rfl
theorem Y30 (h : GT QP gp [(RV.t 2)] pre R 46 Yaq args) : Tri QP gp 71 args pre R := Whj.t h
def Xd1:List MO:=[Qa (Qv 2) (Qd (Qo (Qp A.nil)))]
def Wew:MC:=.r0 Xd1
def Xd2:List MO:=[Qa (Qv 3) (Qd (Qn 0)),Qa (Qv 4) (MOp.nilq NK.sl false (Qn 3))]
def Wex:MC:=.r0 Xd2
def Xe6:List MO:=[Qa (Qv 2) (Qd (Qo (Qp A.nil)))]
def Wey:MC:=.r0 Xe6
def Xfv:List MO:=[Qa (Qv 5) (MOp.bslO 6 [(Qr Qu 0),(Qr Qu 0),(Qr Qu 0),(D.str (ByteArray.mk #[])),(D.sl []),(D.sl [])] 0 []),Qa (Qv 6) (Qd (Qn 0)),Qa (Qv 7) (MOp.app 44 6 88 (Qn 5) (Qn 6)),Qa (Qv 2) (Qd (Qn 7))]
def Wez:MC:=.r0 Xfv
def Yar:MC:=.seq Wew (.seq (.seq Wex (.cond (Qn 4) (.seq Wey .ret) .skip)) (.seq Wez .ret))
theorem Whk : KK QP 73 f73 [5] Yar [(RV.t 2)] 8 := by refine ⟨func73,?_,?_,?_,?_⟩<;>kernel_rfl
theorem We0 : Xaa QP 73 = true := by kernel_rfl
theorem Y31 (h : GT QP gp [(RV.t 2)] pre R 8 Yar args) : Tri QP gp 73 args pre R := Whk.t h
def Yog:List MO:=[Qa (Qv 4) (Qd (Qo (Qp (Qq (D.str (ByteArray.mk #[]))))))]
def We1:MC:=.r0 Yog
def Yoh:List MO:=[Qa (Qv 13) (Qd (Qn 0)),Qa (Qv 14) (MOp.nck (Qn 13)),Qa (Qv 15) (Qg 0 (Qn 14)),Qa (Qv 16) (Qf 2 true (Qn 15)),Qa (Qv 17) (Qd (Qn 1)),Qa (Qv 18) (Qh 64 [(Qn 16),(Qn 17)]),Qa (Qv 12) (Qd (Qn 18)),Qa (Qv 19) (Qi (Qn 12) 0),Qa (Qv 20) (Qi (Qn 12) 1),Qa (Qv 5) (Qd (Qn 19)),Qa (Qv 6) (Qd (Qn 20))]
def We2:MC:=.r0 Yoh
def Yoi:List MO:=[Qa (Qv 7) (MOp.bldN 169 5)]
def We3:MC:=.r0 Yoi
def Yoj:List MO:=[Qa (Qv 21) (Qd (Qn 5)),Qa (Qv 22) (Qk Qt (Qn 21)),Qa (Qv 23) (Qd (Qo (Qp (Qq (Qr Qu 0)))))]
def We4:MC:=.r0 Yoj
def Yok:List MO:=[Qa (Qv 24) (Qe Qt Go.BinOp.lss (Qn 23) (Qn 22))]
def We5:MC:=.r0 Yok
def Yol:List MO:=[Qa (Qv 25) (Qj 3 (Qn 21) (Qn 23)),Qa (Qv 26) (Qf 3 true (Qn 25)),Qa (Qv 9) (MOp.alloc [(Qr Qu 0),(Qr Qu 0),(D.str (ByteArray.mk #[]))]),Qa none (Ql 3 (Qn 9) (Qn 26))]
def We6:MC:=.r0 Yol
def Yom:List MO:=[Qa (Qv 28) (Qf 3 true (Qn 9)),Qa (Qv 29) (Qh 100 [(Qn 28)]),Qa (Qv 27) (Qd (Qn 29)),Qa (Qv 30) (Qi (Qn 27) 0),Qa (Qv 31) (Qi (Qn 27) 1),Qa (Qv 10) (Qd (Qn 30)),Qa (Qv 11) (Qd (Qn 31))]
def We7:MC:=.r0 Yom
def Yas:List MO:=[Qa (Qv 32) (Qd (Qn 10)),Qa (Qv 33) (Qe Leaf.s Go.BinOp.add (Qn 32) (Qo (Qp (Qq (D.str (ByteArray.mk #[44])))))),Qa (Qv 34) (Qh 101 [(Qn 7),(Qn 33)])]
def Y32:MC:=.r0 Yas
def Yat:List MO:=[Qa (Qv 35) (Qe Qt Go.BinOp.add (Qn 23) (Qo (Qp (Qq (Qr Qu 1))))),Qa (Qv 23) (Qd (Qn 35))]
def Y33:MC:=.r0 Yat
def Y34:MC:=.seq (.blk 1 (.seq We6 (.seq We7 Y32))) Y33
def Yau:List MO:=[Qa (Qv 36) (Qh 102 [(Qn 7)]),Qa (Qv 4) (Qd (Qn 36))]
def Y35:MC:=.r0 Yau
def Y36:MC:=.seq (.seq We4 (.blk 0 (.loop (.seq We5 (.seq (.cond (Qn 24) .skip (MC.exit 0)) Y34))))) (.seq Y35 .ret)
def Yav:MC:=.seq We1 (.seq We2 (.seq We3 Y36))
attribute [go_sem] Yog Yoh Yoi Yoj Yok Yol Yom Yas Yat Yau
theorem Whl : KK QP 74 f74 [] Yav [(RV.t 4)] 37 := by refine ⟨func74,?_,?_,?_,?_⟩<;>kernel_rfl
theorem We8 : Xaa QP 74 = true := by kernel_rfl
theorem We9 (h : GI QP gp [(RV.t 4)] res 37 Yav args) : Does QP gp 74 args res := Whl.i We8 h
def Yon:List MO:=[Qa (Qv 2) (Qd (Qo (Qp (Qq (D.str (ByteArray.mk #[]))))))]
def Wfa:MC:=.r0 Yon
def Yoo:List MO:=[Qa (Qv 3) (MOp.bldN 169 5)]
def Wfb:MC:=.r0 Yoo
def Yop:List MO:=[Qa (Qv 6) (Qd (Qn 0)),Qa (Qv 7) (Qk Qt (Qn 6)),Qa (Qv 8) (Qd (Qo (Qp (Qq (Qr Qu 0)))))]
def Wfc:MC:=.r0 Yop
def Yoq:List MO:=[Qa (Qv 9) (Qe Qt Go.BinOp.lss (Qn 8) (Qn 7))]
def Wfd:MC:=.r0 Yoq
def Yor:List MO:=[Qa (Qv 10) (Qj 1 (Qn 6) (Qn 8)),Qa (Qv 11) (Qf 1 false (Qn 10)),Qa (Qv 5) (Qd (Qn 11))]
def Wfe:MC:=.r0 Yor
def Yos:List MO:=[Qa (Qv 12) (Qd (Qn 5)),Qa (Qv 13) (Qh 103 [(Qn 12)]),Qa (Qv 14) (Qe Leaf.s Go.BinOp.add (Qn 13) (Qo (Qp (Qq (D.str (ByteArray.mk #[44])))))),Qa (Qv 15) (Qh 101 [(Qn 3),(Qn 14)])]
def Wff:MC:=.r0 Yos
def Yaw:List MO:=[Qa (Qv 16) (Qe Qt Go.BinOp.add (Qn 8) (Qo (Qp (Qq (Qr Qu 1))))),Qa (Qv 8) (Qd (Qn 16))]
def Y37:MC:=.r0 Yaw
def Y38:MC:=.seq Wfd (.seq (.cond (Qn 9) .skip (MC.exit 0)) (.seq (.blk 1 (.seq Wfe Wff)) Y37))
def Yax:List MO:=[Qa (Qv 17) (Qh 102 [(Qn 3)]),Qa (Qv 2) (Qd (Qn 17))]
def Y39:MC:=.r0 Yax
def Y4a:MC:=.seq Wfb (.seq (.seq Wfc (.blk 0 (.loop Y38))) (.seq Y39 .ret))
def Yay:MC:=.seq Wfa Y4a
attribute [go_sem] Yon Yoo Yop Yoq Yor Yos Yaw Yax
theorem Whm : KK QP 75 f75 [] Yay [(RV.t 2)] 18 := by refine ⟨func75,?_,?_,?_,?_⟩<;>kernel_rfl
theorem Wfg : Xaa QP 75 = true := by kernel_rfl
theorem Wfh (h : GI QP gp [(RV.t 2)] res 18 Yay args) : Does QP gp 75 args res := Whm.i Wfg h
def Yot:List MO:=[Qa (Qv 1) (MOp.box (Qn 0)),Qa (Qv 2) (Qd (Qo (Qp (Qq D.nilF))))]
def Wfi:MC:=.r0 Yot
def You:List MO:=[Qa (Qv 3) (MOp.mkF (Go.Fn.func 125) [(Qn 1)]),Qa (Qv 2) (Qd (Qn 3))]
def Wfj:MC:=.r0 You
def Yov:MC:=.seq Wfi (.seq Wfj .ret)
attribute [go_sem] Yot You
theorem Whn : KK QP 97 f97 [] Yov [(RV.t 2)] 4 := by refine ⟨func97,?_,?_,?_,?_⟩<;>kernel_rfl
theorem Wfk : Xaa QP 97 = true := by kernel_rfl
theorem Y4b (h : GT QP gp [(RV.t 2)] pre R 4 Yov args) : Tri QP gp 97 args pre R := Whn.t h
def Yaz:List MO:=[Qa (Qv 4) (Qf 1 false (Qn 1)),Qa (Qv 5) (MOp.nck (Qn 4)),Qa (Qv 6) (Qg 0 (Qn 5)),Qa (Qv 7) (Qg 1 (Qn 6)),Qa (Qv 8) (Qf 1 false (Qn 7)),Qa (Qv 9) (Qk Qt (Qn 8)),Qa (Qv 10) (Qd (Qo (Qp (Qq (Qr Qu 0)))))]
def Y4c:MC:=.r0 Yaz
def Ya0:List MO:=[Qa (Qv 11) (Qe Qt Go.BinOp.lss (Qn 10) (Qn 9))]
def Y4d:MC:=.r0 Ya0
def Ya1:List MO:=[Qa (Qv 12) (Qd (Qn 10)),Qa (Qv 3) (Qd (Qn 12))]
def Y4e:MC:=.r0 Ya1
def Ya2:List MO:=[Qa (Qv 13) (Qd (Qn 0)),Qa (Qv 14) (Qd (Qn 3)),Qa (Qv 15) (Qf 1 false (Qn 1)),Qa (Qv 16) (Qd (Qn 3)),Qa (Qv 17) (Qh 45 [(Qn 15),(Qn 16)]),Qa (Qv 18) (MOp.callv (Qn 13) [(Qn 14),(Qn 17)]),Qa (Qv 19) (MOp.not (Qn 18))]
def Y4f:MC:=.r0 Ya2
def Xwg:List MO:=[Qa (Qv 20) (Qe Qt Go.BinOp.add (Qn 10) (Qo (Qp (Qq (Qr Qu 1))))),Qa (Qv 10) (Qd (Qn 20))]
def Yh1:MC:=.r0 Xwg
def Yh2:MC:=.seq Y4d (.seq (.cond (Qn 11) .skip (MC.exit 0)) (.seq (.blk 1 (.seq Y4e (.seq Y4f (.cond (Qn 19) (MC.exit 0) .skip)))) Yh1))
def Xwh:MC:=.scope (.seq .skip (.seq Y4c (.blk 0 (.loop Yh2))))
attribute [go_sem] Yaz Ya0 Ya1 Ya2 Xwg
theorem Wfl : KK QP 125 f125 [] Xwh [] 21 := by refine ⟨func125,?_,?_,?_,?_⟩<;>kernel_rfl
theorem Y4g : Xaa QP 125 = true := by kernel_rfl
theorem Yh3 (h : GT QP gp [] pre R 21 Xwh args) : Tri QP gp 125 args pre R := Wfl.t h
end Go.Fw.L07
