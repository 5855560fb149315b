/- Small codes. -/
import Derived.Test.YtiklocoaghcliaaGreatDoorFd
import Derived.Test.YtiklocoaghcliaaGreatDoorProg
set_option linter.all false
namespace Go.Fw.L07
open Go Go.Fw
open Go.Proofs.Tryz renaming prog->QP
open Go.Proofs.Tryz (f10 f100 f106 f107 f108 f109 f11 f110 f111 f114 f115 f116 f119 f12 f120 f121 f122 f128 f129 f13 f130 f131 f132 f133 f134 f135 f136 f137 f14 f140 f142 f143 f146 f147 f148 f149 f18 f19 f23 f29 f30 f32 f33 f34 f35 f36 f37 f38 f40 f41 f42 f48 f49 f50 f57 f58 f61 f62 f66 f67 f68 f71 f73 f74 f75 f79 f8 f80 f87 f89 f9 f90 f91 f92 f96 f97 f98 f99 func10 func100 func106 func107 func108 func109 func11 func110 func111 func114 func115 func116 func119 func12 func120 func121 func122 func128 func129 func13 func130 func131 func132 func133 func134 func135 func136 func137 func14 func140 func142 func143 func146 func147 func148 func149 func18 func19 func23 func29 func30 func32 func33 func34 func35 func36 func37 func38 func40 func41 func42 func48 func49 func50 func57 func58 func61 func62 func66 func67 func68 func71 func73 func74 func75 func79 func8 func80 func87 func89 func9 func90 func91 func92 func96 func97 func98 func99)
open Go.Fw.MO renaming op->Qa,chk->Qb,opx->Qc
open Go.Fw.MOp renaming mv->Qd,bin->Qe,load->Qf,fad->Qg,call->Qh,ext->Qi,iad->Qj,len->Qk,store->Ql,pick->Qm
open Go.Fw.Opd renaming t->Qn,c->Qo
open Go.Fw.V renaming one->Qp
open Go.Fw.A renaming d->Qq
open Go.Fw.D renaming int->Qr,bool->Qs
open Go.Fw.Leaf renaming i->Qt
open Go.IntKind renaming i64->Qu
open Option renaming some->Qv
variable {gp:Xaj} {args:List V} {res:V} {pre:List Ch} {R:V->List Ch->Prop}
def Wi3:List MO:=[Qa (Qv 1) (MOp.box (Qn 0)),Qa (Qv 2) (Qd (Qo (Qp (Qq (Qs false)))))]
def Wyb:MC:=.r0 Wi3
def Wi4:List MO:=[Qa (Qv 10) (Qh 9 []),Qa (Qv 3) (Qd (Qn 10))]
def Wyc:MC:=.r0 Wi4
def Wi5:List MO:=[Qa (Qv 11) (Qf 2 true (Qn 1)),Qa (Qv 12) (Qh 10 [(Qn 11)]),Qa none (Ql 2 (Qn 1) (Qn 12))]
def Wyd:MC:=.r0 Wi5
def Wi6:List MO:=[Qa (Qv 14) (Qf 2 true (Qn 1)),Qa (Qv 15) (Qh 11 [(Qn 14)]),Qa (Qv 13) (Qd (Qn 15)),Qa (Qv 16) (Qi (Qn 13) 0),Qa (Qv 17) (Qi (Qn 13) 1),Qa (Qv 4) (MOp.alloc [(Qr Qu 0),(D.str (ByteArray.mk #[])),(Qr Qu 0),(Qr Qu 0),(D.str (ByteArray.mk #[])),(D.sl []),(D.sl [])]),Qa none (Ql 7 (Qn 4) (Qn 16)),Qa (Qv 5) (Qd (Qn 17))]
def Wye:MC:=.r0 Wi6
def Wi7:List MO:=[Qa (Qv 18) (Qd (Qn 5)),Qa (Qv 19) (Qe Qt Go.BinOp.neq (Qn 18) (Qo (Qp (Qq (Qr Qu 0)))))]
def Wyf:MC:=.r0 Wi7
def Wi8:List MO:=[Qa (Qv 20) (Qd (Qn 3)),Qa (Qv 21) (Qd (Qn 20)),Qb 21 true (Qv 22),Qa (Qv 22) (Qg 6 (Qn 4)),Qb 21 true (Qv 23),Qa (Qv 23) (Qf 1 false (Qn 22)),Qb 21 true (Qv 24),Qa (Qv 24) (Qk Qt (Qn 23)),Qb 21 true (Qv 25),Qa (Qv 25) (Qe Qt Go.BinOp.eql (Qn 24) (Qo (Qp (Qq (Qr Qu 0))))),Qa (Qv 26) (Qm (Qn 21) (Qn 25) (Qo (Qp (Qq (Qs false))))),Qa (Qv 2) (Qd (Qn 26))]
def Wyg:MC:=.r0 Wi8
def Yqd:List MO:=[Qa (Qv 28) (Qf 7 true (Qn 4)),Qa (Qv 29) (Qh 12 [(Qn 28)]),Qa (Qv 27) (Qd (Qn 29)),Qa (Qv 30) (Qi (Qn 27) 0),Qa (Qv 31) (Qi (Qn 27) 1),Qa (Qv 6) (MOp.alloc [(Qr Qu 0),(D.sl [])]),Qa none (Ql 2 (Qn 6) (Qn 30)),Qa (Qv 7) (Qd (Qn 31))]
def Wi9:MC:=.r0 Yqd
def Yqe:List MO:=[Qa (Qv 32) (Qd (Qn 7)),Qa (Qv 33) (Qe Qt Go.BinOp.neq (Qn 32) (Qo (Qp (Qq (Qr Qu 0)))))]
def Wja:MC:=.r0 Yqe
def Yqf:List MO:=[Qa (Qv 34) (Qd (Qn 3)),Qa (Qv 35) (Qd (Qn 34)),Qb 35 true (Qv 36),Qa (Qv 36) (Qd (Qn 7)),Qb 35 true (Qv 37),Qa (Qv 37) (Qe Qt Go.BinOp.eql (Qn 36) (Qo (Qp (Qq (Qr Qu 71))))),Qa (Qv 38) (Qm (Qn 35) (Qn 37) (Qo (Qp (Qq (Qs false))))),Qa (Qv 2) (Qd (Qn 38))]
def Wjb:MC:=.r0 Yqf
def Yqg:List MO:=[Qa (Qv 40) (Qf 2 true (Qn 1)),Qa (Qv 41) (Qf 2 true (Qn 6)),Qa (Qv 42) (Qh 22 [(Qn 40),(Qn 41)]),Qa (Qv 39) (Qd (Qn 42)),Qa (Qv 43) (Qi (Qn 39) 0),Qa (Qv 44) (Qi (Qn 39) 1),Qa (Qv 8) (Qd (Qn 43)),Qa (Qv 9) (Qd (Qn 44))]
def Wjc:MC:=.r0 Yqg
def Yqh:List MO:=[Qa (Qv 45) (Qd (Qn 3)),Qa (Qv 46) (Qd (Qn 45)),Qb 46 true (Qv 47),Qa (Qv 47) (Qd (Qn 8)),Qa (Qv 48) (Qm (Qn 46) (Qn 47) (Qo (Qp (Qq (Qs false))))),Qa (Qv 49) (Qd (Qn 48)),Qb 49 true (Qv 50),Qa (Qv 50) (Qd (Qn 9)),Qb 49 true (Qv 51),Qa (Qv 51) (Qe Qt Go.BinOp.eql (Qn 50) (Qo (Qp (Qq (Qr Qu 0))))),Qa (Qv 52) (Qm (Qn 49) (Qn 51) (Qo (Qp (Qq (Qs false))))),Qa (Qv 2) (Qd (Qn 52))]
def Wjd:MC:=.r0 Yqh
def Wje:MC:=.seq (.seq Wja (.cond (Qn 33) (.seq Wjb .ret) .skip)) (.seq Wjc (.seq Wjd .ret))
def Wjf:MC:=.seq (.seq Wyf (.cond (Qn 19) (.seq Wyg .ret) .skip)) (.seq Wi9 Wje)
def Wjg:MC:=.seq Wyc (.seq Wyd (.seq Wye Wjf))
def Yqi:MC:=.seq Wyb Wjg
attribute [go_sem] Wi3 Wi4 Wi5 Wi6 Wi7 Wi8 Yqd Yqe Yqf Yqg Yqh
theorem W14:KK QP 8 f8 [] Yqi [(RV.t 2)] 53:=by refine⟨func8,?_,?_,?_,?_⟩<;>kernel_rfl
theorem Wyh:Xaa QP 8=true:=by kernel_rfl
theorem Yz2 (h:GI QP gp [(RV.t 2)] res 53 Yqi args):Xao QP gp 8 args res:=W14.i Wyh h
def Wjh:List MO:=[Qa (Qv 0) (Qd (Qo (Qp (Qq (Qs false)))))]
def Wyi:MC:=.r0 Wjh
def Wji:List MO:=[Qa (Qv 14) (MOp.build [(Qr Qu 0),(Qr Qu 0),(D.str (ByteArray.mk #[]))] [(0,(1,(Qo (Qp (Qq (Qr Qu 2)))))),(1,(1,(Qo (Qp (Qq (Qr Qu 5))))))]),Qa (Qv 1) (MOp.alloc [(Qr Qu 0),(Qr Qu 0),(D.str (ByteArray.mk #[]))]),Qa none (Ql 3 (Qn 1) (Qn 14))]
def Wyj:MC:=.r0 Wji
def Wjj:List MO:=[Qa (Qv 15) (MOp.build [(Qr Qu 0),(D.str (ByteArray.mk #[])),(Qr Qu 0),(Qr Qu 0),(D.str (ByteArray.mk #[])),(D.sl []),(D.sl [])] [(0,(1,(Qo (Qp (Qq (Qr Qu 3)))))),(1,(1,(Qo (Qp (Qq (D.str (ByteArray.mk #[120])))))))]),Qa (Qv 16) (Qf 3 true (Qn 1)),Qa (Qv 17) (MOp.build [(Qr Qu 0),(D.str (ByteArray.mk #[])),(Qr Qu 0),(Qr Qu 0),(D.str (ByteArray.mk #[])),(D.sl []),(D.sl [])] [(2,(3,(Qn 16)))]),Qa (Qv 18) (MOp.bslice 7 [(Qr Qu 0),(D.str (ByteArray.mk #[])),(Qr Qu 0),(Qr Qu 0),(D.str (ByteArray.mk #[])),(D.sl []),(D.sl [])] 2 [(0,(Qn 15)),(1,(Qn 17))]),Qa (Qv 19) (MOp.build [(Qr Qu 0),(D.str (ByteArray.mk #[])),(Qr Qu 0),(Qr Qu 0),(D.str (ByteArray.mk #[])),(D.sl []),(D.sl [])] [(0,(1,(Qo (Qp (Qq (Qr Qu 1)))))),(1,(1,(Qo (Qp (Qq (D.str (ByteArray.mk #[120]))))))),(6,(1,(Qn 18)))]),Qa (Qv 2) (MOp.alloc [(Qr Qu 0),(D.str (ByteArray.mk #[])),(Qr Qu 0),(Qr Qu 0),(D.str (ByteArray.mk #[])),(D.sl []),(D.sl [])]),Qa none (Ql 7 (Qn 2) (Qn 19))]
def Wyk:MC:=.r0 Wjj
def Wjk:List MO:=[Qa (Qv 21) (Qf 7 true (Qn 2)),Qa (Qv 22) (Qh 12 [(Qn 21)]),Qa (Qv 20) (Qd (Qn 22)),Qa (Qv 23) (Qi (Qn 20) 0),Qa (Qv 24) (Qi (Qn 20) 1),Qa (Qv 3) (MOp.alloc [(Qr Qu 0),(D.sl [])]),Qa none (Ql 2 (Qn 3) (Qn 23)),Qa (Qv 4) (Qd (Qn 24))]
def Wyl:MC:=.r0 Wjk
def Wjl:List MO:=[Qa (Qv 25) (MOp.bslice 1 [(Qr Qu 0)] 2 [(0,(Qo (Qp (Qq (Qr Qu 0))))),(1,(Qo (Qp (Qq (Qr Qu 1)))))]),Qa (Qv 26) (MOp.build [(Qr Qu 0),(Qr Qu 0),(Qr Qu 0),(D.str (ByteArray.mk #[])),(D.sl []),(D.sl [])] [(0,(1,(Qo (Qp (Qq (Qr Qu 1)))))),(5,(1,(Qn 25)))]),Qa (Qv 27) (Qf 3 true (Qn 1)),Qa (Qv 28) (MOp.build [(Qr Qu 0),(Qr Qu 0),(Qr Qu 0),(D.str (ByteArray.mk #[])),(D.sl []),(D.sl [])] [(1,(3,(Qn 27)))]),Qa (Qv 29) (MOp.bslice 6 [(Qr Qu 0),(Qr Qu 0),(Qr Qu 0),(D.str (ByteArray.mk #[])),(D.sl []),(D.sl [])] 2 [(0,(Qn 26)),(1,(Qn 28))]),Qa (Qv 30) (MOp.build [(Qr Qu 0),(D.sl [])] [(1,(1,(Qn 29)))]),Qa (Qv 5) (MOp.alloc [(Qr Qu 0),(D.sl [])]),Qa none (Ql 2 (Qn 5) (Qn 30))]
def Wym:MC:=.r0 Wjl
def Wjm:List MO:=[Qa (Qv 32) (Qg 6 (Qn 2)),Qa (Qv 33) (Qf 1 false (Qn 32)),Qa (Qv 34) (Qj 7 (Qn 33) (Qo (Qp (Qq (Qr Qu 0))))),Qa (Qv 35) (Qf 7 true (Qn 34)),Qa (Qv 36) (Qh 12 [(Qn 35)]),Qa (Qv 31) (Qd (Qn 36)),Qa (Qv 37) (Qi (Qn 31) 0),Qa (Qv 38) (Qi (Qn 31) 1),Qa (Qv 6) (MOp.alloc [(Qr Qu 0),(D.sl [])]),Qa none (Ql 2 (Qn 6) (Qn 37)),Qa (Qv 7) (Qd (Qn 38))]
def Wyn:MC:=.r0 Wjm
def Wjn:List MO:=[Qa (Qv 40) (Qf 2 true (Qn 5)),Qa (Qv 41) (Qh 11 [(Qn 40)]),Qa (Qv 39) (Qd (Qn 41)),Qa (Qv 42) (Qi (Qn 39) 0),Qa (Qv 43) (Qi (Qn 39) 1),Qa (Qv 8) (MOp.alloc [(Qr Qu 0),(D.str (ByteArray.mk #[])),(Qr Qu 0),(Qr Qu 0),(D.str (ByteArray.mk #[])),(D.sl []),(D.sl [])]),Qa none (Ql 7 (Qn 8) (Qn 42)),Qa (Qv 9) (Qd (Qn 43))]
def Wyo:MC:=.r0 Wjn
def Wjo:List MO:=[Qa (Qv 45) (Qf 3 true (Qn 1)),Qa (Qv 46) (Qf 3 true (Qn 1)),Qa (Qv 47) (MOp.bslice 3 [(Qr Qu 0),(Qr Qu 0),(D.str (ByteArray.mk #[]))] 2 [(0,(Qn 45)),(1,(Qn 46))]),Qa (Qv 48) (MOp.mkSD 7 104 [(Qr Qu 0),(D.str (ByteArray.mk #[])),(Qr Qu 0),(Qr Qu 0),(D.str (ByteArray.mk #[])),(D.sl []),(D.sl [])] (Qo (Qp (Qq (Qr Qu 2))))),Qa (Qv 49) (MOp.build [(Qr Qu 0),(D.str (ByteArray.mk #[])),(Qr Qu 0),(Qr Qu 0),(D.str (ByteArray.mk #[])),(D.sl []),(D.sl [])] [(0,(1,(Qo (Qp (Qq (Qr Qu 2)))))),(5,(1,(Qn 47))),(6,(1,(Qn 48)))]),Qa (Qv 50) (Qh 12 [(Qn 49)]),Qa (Qv 44) (Qd (Qn 50)),Qa (Qv 51) (Qi (Qn 44) 0),Qa (Qv 52) (Qi (Qn 44) 1),Qa (Qv 10) (MOp.alloc [(Qr Qu 0),(D.sl [])]),Qa none (Ql 2 (Qn 10) (Qn 51)),Qa (Qv 11) (Qd (Qn 52))]
def Wyp:MC:=.reg true Wjo
def Wjp:List MO:=[Qa (Qv 54) (MOp.build [(Qr Qu 0),(D.sl [])] []),Qa (Qv 55) (Qh 11 [(Qn 54)]),Qa (Qv 53) (Qd (Qn 55)),Qa (Qv 56) (Qi (Qn 53) 0),Qa (Qv 57) (Qi (Qn 53) 1),Qa (Qv 12) (MOp.alloc [(Qr Qu 0),(D.str (ByteArray.mk #[])),(Qr Qu 0),(Qr Qu 0),(D.str (ByteArray.mk #[])),(D.sl []),(D.sl [])]),Qa none (Ql 7 (Qn 12) (Qn 56)),Qa (Qv 13) (Qd (Qn 57))]
def Wyq:MC:=.r0 Wjp
def Wjq:List MO:=[Qa (Qv 58) (Qd (Qn 4)),Qa (Qv 59) (Qe Qt Go.BinOp.eql (Qn 58) (Qo (Qp (Qq (Qr Qu 0))))),Qa (Qv 60) (Qd (Qn 59)),Qb 60 true (Qv 61),Qa (Qv 61) (Qf 2 true (Qn 3)),Qb 60 true (Qv 62),Qa (Qv 62) (Qf 2 true (Qn 5)),Qb 60 true (Qv 63),Qa (Qv 63) (Qh 14 [(Qn 61),(Qn 62)]),Qa (Qv 64) (Qm (Qn 60) (Qn 63) (Qo (Qp (Qq (Qs false))))),Qa (Qv 65) (Qd (Qn 64)),Qb 65 true (Qv 66),Qa (Qv 66) (Qd (Qn 7)),Qb 65 true (Qv 67),Qa (Qv 67) (Qe Qt Go.BinOp.eql (Qn 66) (Qo (Qp (Qq (Qr Qu 100))))),Qa (Qv 68) (Qm (Qn 65) (Qn 67) (Qo (Qp (Qq (Qs false))))),Qa (Qv 69) (Qd (Qn 68)),Qb 69 true (Qv 70),Qa (Qv 70) (Qd (Qn 9)),Qb 69 true (Qv 71),Qa (Qv 71) (Qe Qt Go.BinOp.eql (Qn 70) (Qo (Qp (Qq (Qr Qu 0))))),Qa (Qv 72) (Qm (Qn 69) (Qn 71) (Qo (Qp (Qq (Qs false))))),Qa (Qv 73) (Qd (Qn 72)),Qb 73 true (Qv 74),Qa (Qv 74) (Qg 1 (Qn 8)),Qb 73 true (Qv 75),Qa (Qv 75) (Qf 1 false (Qn 74)),Qb 73 true (Qv 76),Qa (Qv 76) (Qe Leaf.s Go.BinOp.eql (Qn 75) (Qo (Qp (Qq (D.str (ByteArray.mk #[97,49])))))),Qa (Qv 77) (Qm (Qn 73) (Qn 76) (Qo (Qp (Qq (Qs false))))),Qa (Qv 78) (Qd (Qn 77)),Qb 78 true (Qv 79),Qa (Qv 79) (Qg 6 (Qn 8)),Qb 78 true (Qv 80),Qa (Qv 80) (Qf 1 false (Qn 79)),Qb 78 true (Qv 81),Qa (Qv 81) (Qk Qt (Qn 80)),Qb 78 true (Qv 82),Qa (Qv 82) (Qe Qt Go.BinOp.eql (Qn 81) (Qo (Qp (Qq (Qr Qu 2))))),Qa (Qv 83) (Qm (Qn 78) (Qn 82) (Qo (Qp (Qq (Qs false))))),Qa (Qv 84) (Qd (Qn 83)),Qb 84 true (Qv 85),Qa (Qv 85) (Qg 6 (Qn 8)),Qb 84 true (Qv 86),Qa (Qv 86) (Qf 1 false (Qn 85)),Qb 84 true (Qv 87),Qa (Qv 87) (Qj 7 (Qn 86) (Qo (Qp (Qq (Qr Qu 0))))),Qb 84 true (Qv 88),Qa (Qv 88) (Qg 0 (Qn 87)),Qb 84 true (Qv 89),Qa (Qv 89) (Qf 1 false (Qn 88)),Qb 84 true (Qv 90),Qa (Qv 90) (Qe Qt Go.BinOp.eql (Qn 89) (Qo (Qp (Qq (Qr Qu 3))))),Qa (Qv 91) (Qm (Qn 84) (Qn 90) (Qo (Qp (Qq (Qs false))))),Qa (Qv 92) (Qd (Qn 91)),Qb 92 true (Qv 93),Qa (Qv 93) (Qd (Qn 11)),Qb 92 true (Qv 94),Qa (Qv 94) (Qe Qt Go.BinOp.eql (Qn 93) (Qo (Qp (Qq (Qr Qu 101))))),Qa (Qv 95) (Qm (Qn 92) (Qn 94) (Qo (Qp (Qq (Qs false))))),Qa (Qv 96) (Qd (Qn 95)),Qb 96 true (Qv 97),Qa (Qv 97) (Qd (Qn 13)),Qb 96 true (Qv 98),Qa (Qv 98) (Qe Qt Go.BinOp.eql (Qn 97) (Qo (Qp (Qq (Qr Qu 72))))),Qa (Qv 99) (Qm (Qn 96) (Qn 98) (Qo (Qp (Qq (Qs false))))),Qa (Qv 100) (Qd (Qn 99)),Qb 100 true (Qv 101),Qa (Qv 101) (Qf 7 true (Qn 2)),Qb 100 true (Qv 102),Qa (Qv 102) (Qh 13 [(Qn 101)]),Qb 100 true (Qv 103),Qa (Qv 103) (MOp.bslice 1 [(D.str (ByteArray.mk #[]))] 1 [(0,(Qo (Qp (Qq (D.str (ByteArray.mk #[120]))))))]),Qb 100 true (Qv 104),Qa (Qv 104) (Qh 23 [(Qn 102),(Qn 103)]),Qa (Qv 105) (Qm (Qn 100) (Qn 104) (Qo (Qp (Qq (Qs false))))),Qa (Qv 0) (Qd (Qn 105))]
def Wyr:MC:=.r0 Wjq
def Wjr:MC:=.seq Wyo (.seq Wyp (.seq Wyq (.seq Wyr .ret)))
def Wjs:MC:=.seq Wyl (.seq Wym (.seq Wyn Wjr))
def Yqj:MC:=.seq Wyi (.seq Wyj (.seq Wyk Wjs))
attribute [go_sem] Wjh Wji Wjj Wjk Wjl Wjm Wjn Wjo Wjp Wjq
theorem W15:KK QP 9 f9 [48] Yqj [(RV.t 0)] 106:=by refine⟨func9,?_,?_,?_,?_⟩<;>kernel_rfl
theorem Wys:Xaa QP 9=true:=by kernel_rfl
theorem Wyt (h:GI QP gp [(RV.t 0)] res 106 Yqj args):Xao QP gp 9 args res:=W15.i Wys h
def Yqk:List MO:=[Qa (Qv 1) (MOp.box (Qn 0)),Qa (Qv 2) (MOp.alloc [(Qr Qu 0),(D.sl [])])]
def Wjt:MC:=.r0 Yqk
def Yql:List MO:=[Qa (Qv 5) (Qf 2 true (Qn 1)),Qa (Qv 6) (Qh 24 [(Qn 5),(Qo (Qp (Qq (Qr Qu 40))))]),Qa none (Ql 2 (Qn 1) (Qn 6))]
def Wju:MC:=.r0 Yql
def Yqm:List MO:=[Qa (Qv 8) (Qf 2 true (Qn 1)),Qa (Qv 9) (Qh 25 [(Qn 8)]),Qa (Qv 7) (Qd (Qn 9)),Qa (Qv 10) (Qi (Qn 7) 0),Qa (Qv 11) (Qi (Qn 7) 1),Qa (Qv 3) (MOp.alloc [(Qr Qu 0),(D.sl [])]),Qa none (Ql 2 (Qn 3) (Qn 10)),Qa (Qv 4) (Qd (Qn 11))]
def Wjv:MC:=.r0 Yqm
def Yqn:List MO:=[Qa (Qv 12) (Qd (Qn 4)),Qa (Qv 13) (Qe Qt Go.BinOp.eql (Qn 12) (Qo (Qp (Qq (Qr Qu 0)))))]
def Wjw:MC:=.r0 Yqn
def Yqo:List MO:=[Qa (Qv 14) (Qf 2 true (Qn 3)),Qa none (Ql 2 (Qn 2) (Qn 14))]
def Wjx:MC:=.r0 Yqo
def X3q:List MO:=[Qa (Qv 15) (Qf 2 true (Qn 1)),Qa none (Ql 2 (Qn 2) (Qn 15))]
def Yz3:MC:=.r0 X3q
def Yz4:MC:=.seq Wjv (.seq (.seq Wjw (.cond (Qn 13) (.seq Wjx .ret) .skip)) (.seq Yz3 .ret))
def X3r:MC:=.seq Wjt (.seq Wju Yz4)
attribute [go_sem] Yqk Yql Yqm Yqn Yqo X3q
theorem Wyu:KK QP 10 f10 [] X3r [(RV.cell 2 2 true)] 16:=by refine⟨func10,?_,?_,?_,?_⟩<;>kernel_rfl
theorem Wjy:Xaa QP 10=true:=by kernel_rfl
theorem Wjz (h:GI QP gp [(RV.cell 2 2 true)] res 16 X3r args):Xao QP gp 10 args res:=Wyu.i Wjy h
def Yqp:List MO:=[Qa (Qv 1) (MOp.ibox (Qn 0)),Qa (Qv 2) (MOp.alloc [(Qr Qu 0),(D.str (ByteArray.mk #[])),(Qr Qu 0),(Qr Qu 0),(D.str (ByteArray.mk #[])),(D.sl []),(D.sl [])]),Qa (Qv 3) (Qd (Qo (Qp (Qq (Qr Qu 0)))))]
def Wj0:MC:=.r0 Yqp
def Yqq:List MO:=[Qa (Qv 12) (Qf 2 true (Qn 1)),Qa (Qv 13) (Qh 26 [(Qn 12)]),Qa (Qv 14) (MOp.not (Qn 13))]
def Wj1:MC:=.r0 Yqq
def Yqr:List MO:=[Qa (Qv 15) (MOp.build [(Qr Qu 0),(D.str (ByteArray.mk #[])),(Qr Qu 0),(Qr Qu 0),(D.str (ByteArray.mk #[])),(D.sl []),(D.sl [])] []),Qa none (Ql 7 (Qn 2) (Qn 15)),Qa (Qv 3) (Qd (Qo (Qp (Qq (Qr Qu 72)))))]
def Wj2:MC:=.r0 Yqr
def Yqs:List MO:=[Qa (Qv 17) (Qf 2 true (Qn 1)),Qa (Qv 18) (Qh 27 [(Qn 17)]),Qa (Qv 16) (Qd (Qn 18)),Qa (Qv 19) (Qi (Qn 16) 0),Qa (Qv 20) (Qi (Qn 16) 1),Qa (Qv 4) (Qd (Qn 19)),Qa (Qv 5) (Qd (Qn 20))]
def Wj3:MC:=.r0 Yqs
def Yqt:List MO:=[Qa (Qv 21) (Qd (Qn 4)),Qa (Qv 22) (Qk Qt (Qn 21)),Qa (Qv 23) (Qd (Qo (Qp (Qq (Qr Qu 0)))))]
def Wj4:MC:=.r0 Yqt
def X3s:List MO:=[Qa (Qv 24) (Qe Qt Go.BinOp.lss (Qn 23) (Qn 22))]
def Yz5:MC:=.r0 X3s
def X3t:List MO:=[Qa (Qv 25) (Qd (Qn 23)),Qa (Qv 26) (Qj 1 (Qn 21) (Qn 23)),Qa (Qv 27) (Qf 1 false (Qn 26)),Qa (Qv 6) (Qd (Qn 25)),Qa (Qv 7) (Qd (Qn 27))]
def Yz6:MC:=.r0 X3t
def X3u:List MO:=[Qa (Qv 28) (Qd (Qn 7)),Qa (Qv 29) (Qe Qt Go.BinOp.gtr (Qn 28) (Qo (Qp (Qq (Qr Qu 24))))),Qa (Qv 30) (Qd (Qn 29)),Qb 30 false (Qv 31),Qa (Qv 31) (Qd (Qn 7)),Qb 30 false (Qv 32),Qa (Qv 32) (Qe Qt Go.BinOp.eql (Qn 31) (Qo (Qp (Qq (Qr Qu 24))))),Qb 30 false (Qv 33),Qa (Qv 33) (Qd (Qn 32)),Qb 33 true (Qv 34),Qa (Qv 34) (Qg 1 (Qn 1)),Qb 33 true (Qv 35),Qa (Qv 35) (Qf 1 false (Qn 34)),Qb 33 true (Qv 36),Qa (Qv 36) (Qd (Qn 6)),Qb 33 true (Qv 37),Qa (Qv 37) (Qj 6 (Qn 35) (Qn 36)),Qb 33 true (Qv 38),Qa (Qv 38) (Qg 5 (Qn 37)),Qb 33 true (Qv 39),Qa (Qv 39) (Qf 1 false (Qn 38)),Qb 33 true (Qv 40),Qa (Qv 40) (Qk Qt (Qn 39)),Qb 33 true (Qv 41),Qa (Qv 41) (Qe Qt Go.BinOp.gtr (Qn 40) (Qo (Qp (Qq (Qr Qu 0))))),Qb 30 false (Qv 42),Qa (Qv 42) (Qm (Qn 33) (Qn 41) (Qo (Qp (Qq (Qs false))))),Qa (Qv 43) (Qm (Qn 30) (Qo (Qp (Qq (Qs true)))) (Qn 42))]
def Yz7:MC:=.r0 X3u
def X3v:List MO:=[Qa (Qv 44) (MOp.build [(Qr Qu 0),(D.str (ByteArray.mk #[])),(Qr Qu 0),(Qr Qu 0),(D.str (ByteArray.mk #[])),(D.sl []),(D.sl [])] []),Qa none (Ql 7 (Qn 2) (Qn 44)),Qa (Qv 3) (Qd (Qo (Qp (Qq (Qr Qu 73)))))]
def Yz8:MC:=.r0 X3v
def X3w:List MO:=[Qa (Qv 45) (Qe Qt Go.BinOp.add (Qn 23) (Qo (Qp (Qq (Qr Qu 1))))),Qa (Qv 23) (Qd (Qn 45))]
def Yz9:MC:=.r0 X3w
def Y0a:MC:=.seq (.blk 1 (.seq Yz6 (.seq Yz7 (.cond (Qn 43) (.seq Yz8 .ret) .skip)))) Yz9
def X3x:List MO:=[Qa (Qv 47) (Qf 2 true (Qn 1)),Qa (Qv 48) (Qh 28 [(Qn 47)]),Qa (Qv 46) (Qd (Qn 48)),Qa (Qv 49) (Qi (Qn 46) 0),Qa (Qv 50) (Qi (Qn 46) 1),Qa (Qv 8) (MOp.alloc [(D.sl [])]),Qa none (Ql 1 (Qn 8) (Qn 49)),Qa (Qv 9) (Qd (Qn 50))]
def Y0b:MC:=.r0 X3x
def X3y:List MO:=[Qa (Qv 51) MOp.mkM,Qa (Qv 10) (MOp.alloc [(D.raw (Go.Value.map none))]),Qa none (Ql 1 (Qn 10) (Qn 51))]
def Y0c:MC:=.r0 X3y
def X3z:List MO:=[Qa (Qv 11) (MOp.alloc [D.nilF])]
def Y0d:MC:=.r0 X3z
def X30:List MO:=[Qa (Qv 52) (MOp.mkF (Go.Fn.func 29) [(Qn 1),(Qn 8),(Qn 10),(Qn 11)]),Qa none (Ql 1 (Qn 11) (Qn 52))]
def Y0e:MC:=.r0 X30
def Xc6:List MO:=[Qa (Qv 53) (Qf 1 false (Qn 11)),Qa (Qv 54) (Qg 0 (Qn 1)),Qa (Qv 55) (Qf 1 false (Qn 54)),Qa (Qv 56) (MOp.callv (Qn 53) [(Qn 55)]),Qa none (Ql 7 (Qn 2) (Qn 56)),Qa (Qv 3) (Qd (Qo (Qp (Qq (Qr Qu 0)))))]
def Y0f:MC:=.r0 Xc6
def Y0g:MC:=.seq Y0c (.seq Y0d (.seq Y0e (.seq Y0f .ret)))
def Y0h:MC:=.seq (.seq Wj4 (.blk 0 (.loop (.seq Yz5 (.seq (.cond (Qn 24) .skip (MC.exit 0)) Y0a))))) (.seq Y0b Y0g)
def Y0i:MC:=.seq (.seq Wj1 (.cond (Qn 14) (.seq Wj2 .ret) .skip)) (.seq Wj3 Y0h)
def X31:MC:=.seq Wj0 Y0i
attribute [go_sem] Yqp Yqq Yqr Yqs Yqt X3s X3t X3u X3v X3w X3x X3y X3z X30
theorem Wyv:KK QP 11 f11 [1] X31 [(RV.cell 2 7 true),(RV.t 3)] 57:=by refine⟨func11,?_,?_,?_,?_⟩<;>kernel_rfl
theorem Wj5:Xaa QP 11=true:=by kernel_rfl
theorem X32 (h:GI QP gp [(RV.cell 2 7 true),(RV.t 3)] res 57 X31 args):Xao QP gp 11 args res:=Wyv.i Wj5 h
def Yqu:List MO:=[Qa (Qv 1) (MOp.ibox (Qn 0)),Qa (Qv 2) (MOp.alloc [(Qr Qu 0),(D.sl [])]),Qa (Qv 3) (Qd (Qo (Qp (Qq (Qr Qu 0)))))]
def Wj6:MC:=.r0 Yqu
def Yqv:List MO:=[Qa (Qv 7) MOp.mkM,Qa (Qv 8) (MOp.build [(Qr Qu 0),(D.sl []),(D.raw (Go.Value.map none))] [(2,(1,(Qn 7)))]),Qa (Qv 9) (MOp.box (Qn 8)),Qa (Qv 4) (Qd (Qn 9))]
def Wj7:MC:=.r0 Yqv
def Yqw:List MO:=[Qa (Qv 11) (Qd (Qn 4)),Qa (Qv 12) (Qf 7 true (Qn 1)),Qa (Qv 13) (MOp.build [(Qr Qu 0),(D.str (ByteArray.mk #[])),(Qr Qu 0),(Qr Qu 0),(D.str (ByteArray.mk #[])),(D.sl []),(D.sl [])] [(0,(7,(Qn 12)))]),Qa (Qv 14) (Qh 32 [(Qn 11),(Qn 13),(Qo (Qp (Qq (Qr Qu 1))))]),Qa (Qv 10) (Qd (Qn 14)),Qa (Qv 15) (Qi (Qn 10) 0),Qa (Qv 16) (Qi (Qn 10) 1),Qa (Qv 5) (Qd (Qn 15)),Qa (Qv 6) (Qd (Qn 16))]
def Wj8:MC:=.r0 Yqw
def Yqx:List MO:=[Qa (Qv 17) (Qd (Qn 6)),Qa (Qv 18) (MOp.nilq NK.ifc true (Qn 17))]
def Wj9:MC:=.r0 Yqx
def Yqy:List MO:=[Qa (Qv 19) (MOp.build [(Qr Qu 0),(D.sl [])] []),Qa (Qv 20) (Qd (Qn 6)),Qa (Qv 21) (Qh 33 [(Qn 20)]),Qa none (Ql 2 (Qn 2) (Qn 19)),Qa (Qv 3) (Qd (Qn 21))]
def Wka:MC:=.r0 Yqy
def Xl6:List MO:=[Qa (Qv 22) (Qd (Qn 4)),Qa (Qv 23) (MOp.nck (Qn 22)),Qa (Qv 24) (Qg 0 (Qn 23)),Qa (Qv 25) (Qf 2 true (Qn 24)),Qa none (Ql 2 (Qn 2) (Qn 25)),Qa (Qv 3) (Qd (Qo (Qp (Qq (Qr Qu 0)))))]
def Y0j:MC:=.r0 Xl6
def Y0k:MC:=.seq (.seq Wj8 (.seq Wj9 (.cond (Qn 18) (.seq Wka .ret) .skip))) (.seq Y0j .ret)
def X33:MC:=.seq Wj6 (.seq Wj7 Y0k)
attribute [go_sem] Yqu Yqv Yqw Yqx Yqy
theorem Wyw:KK QP 12 f12 [1] X33 [(RV.cell 2 2 true),(RV.t 3)] 26:=by refine⟨func12,?_,?_,?_,?_⟩<;>kernel_rfl
theorem Wkb:Xaa QP 12=true:=by kernel_rfl
theorem Wkc (h:GI QP gp [(RV.cell 2 2 true),(RV.t 3)] res 26 X33 args):Xao QP gp 12 args res:=Wyw.i Wkb h
def Yqz:List MO:=[Qa (Qv 1) (MOp.ibox (Qn 0)),Qa (Qv 2) (Qd (Qo (Qp A.nil)))]
def Wkd:MC:=.r0 Yqz
def Yq0:List MO:=[Qa (Qv 3) (MOp.alloc [(D.sl [])])]
def Wke:MC:=.r0 Yq0
def Yq1:List MO:=[Qa (Qv 5) (Qf 7 true (Qn 1)),Qa (Qv 6) (Qh 34 [(Qn 5)])]
def Wkf:MC:=.r0 Yq1
def Yq2:List MO:=[Qa (Qv 4) (MOp.alloc [(Qr Qu 0),(D.str (ByteArray.mk #[])),(Qr Qu 0),(Qr Qu 0),(D.str (ByteArray.mk #[])),(D.sl []),(D.sl [])]),Qa none (Ql 7 (Qn 4) (Qn 7))]
def Wkg:MC:=.r0 Yq2
def Yq3:List MO:=[Qa (Qv 8) (Qg 0 (Qn 4)),Qa (Qv 9) (Qf 1 false (Qn 8)),Qa (Qv 10) (Qe Qt Go.BinOp.neq (Qn 9) (Qo (Qp (Qq (Qr Qu 3))))),Qa (Qv 11) (Qd (Qn 10)),Qb 11 true (Qv 12),Qa (Qv 12) (Qg 1 (Qn 4)),Qb 11 true (Qv 13),Qa (Qv 13) (Qf 1 false (Qn 12)),Qb 11 true (Qv 14),Qa (Qv 14) (Qe Leaf.s Go.BinOp.neq (Qn 13) (Qo (Qp (Qq (D.str (ByteArray.mk #[])))))),Qa (Qv 15) (Qm (Qn 11) (Qn 14) (Qo (Qp (Qq (Qs false)))))]
def Wkh:MC:=.r0 Yq3
def Yq4:List MO:=[Qa (Qv 16) (Qf 1 false (Qn 3)),Qa (Qv 17) (Qg 1 (Qn 4)),Qa (Qv 18) (Qf 1 false (Qn 17)),Qa (Qv 19) (MOp.bslice 1 [(D.str (ByteArray.mk #[]))] 1 [(0,(Qn 18))]),Qa (Qv 20) (MOp.app 9 1 16 (Qn 16) (Qn 19)),Qa none (Ql 1 (Qn 3) (Qn 20))]
def Wki:MC:=.r0 Yq4
def Y0l:MC:=.rf (Qn 6) [7] Wkg (.blk 1 (.seq Wkh (.cond (Qn 15) Wki .skip)))
def Xf4:List MO:=[Qa (Qv 21) (Qf 1 false (Qn 3)),Qa (Qv 2) (Qd (Qn 21))]
def Y0m:MC:=.r0 Xf4
def Y0n:MC:=.seq Wke (.seq (.seq Wkf (.blk 0 Y0l)) (.seq Y0m .ret))
def X34:MC:=.seq Wkd Y0n
attribute [go_sem] Yqz Yq0 Yq1 Yq2 Yq3 Yq4
theorem Wyx:KK QP 13 f13 [1] X34 [(RV.t 2)] 22:=by refine⟨func13,?_,?_,?_,?_⟩<;>kernel_rfl
theorem Wkj:Xaa QP 13=true:=by kernel_rfl
theorem Wkk (h:GI QP gp [(RV.t 2)] res 22 X34 args):Xao QP gp 13 args res:=Wyx.i Wkj h
def Yq5:List MO:=[Qa (Qv 2) (MOp.ibox (Qn 0)),Qa (Qv 3) (MOp.ibox (Qn 1)),Qa (Qv 4) (Qd (Qo (Qp (Qq (Qs false)))))]
def Wkl:MC:=.r0 Yq5
def Yq6:List MO:=[Qa (Qv 5) (Qd (Qo (Qp (Qq (D.fn (Go.Fn.func 35) [])))))]
def Wkm:MC:=.r0 Yq6
def Yq7:List MO:=[Qa (Qv 6) (Qg 0 (Qn 2)),Qa (Qv 7) (Qf 1 false (Qn 6)),Qa (Qv 8) (Qg 0 (Qn 3)),Qa (Qv 9) (Qf 1 false (Qn 8)),Qa (Qv 10) (Qe Qt Go.BinOp.eql (Qn 7) (Qn 9)),Qa (Qv 11) (Qd (Qn 10)),Qb 11 true (Qv 12),Qa (Qv 12) (Qg 1 (Qn 2)),Qb 11 true (Qv 13),Qa (Qv 13) (Qf 1 false (Qn 12)),Qb 11 true (Qv 14),Qa (Qv 14) (Qg 1 (Qn 3)),Qb 11 true (Qv 15),Qa (Qv 15) (Qf 1 false (Qn 14)),Qb 11 true (Qv 16),Qa (Qv 16) (Qd (Qn 5)),Qb 11 true (Qv 17),Qa (Qv 17) (Qh 38 [(Qn 13),(Qn 15),(Qn 16)]),Qa (Qv 18) (Qm (Qn 11) (Qn 17) (Qo (Qp (Qq (Qs false))))),Qa (Qv 4) (Qd (Qn 18))]
def Wkn:MC:=.r0 Yq7
def Yq8:MC:=.seq Wkl (.seq Wkm (.seq Wkn .ret))
attribute [go_sem] Yq5 Yq6 Yq7
theorem Wyy:KK QP 14 f14 [2,3] Yq8 [(RV.t 4)] 19:=by refine⟨func14,?_,?_,?_,?_⟩<;>kernel_rfl
theorem Wko:Xaa QP 14=true:=by kernel_rfl
theorem Wkp (h:GI QP gp [(RV.t 4)] res 19 Yq8 args):Xao QP gp 14 args res:=Wyy.i Wko h
def Yq9:List MO:=[Qa (Qv 1) (MOp.ibox (Qn 0)),Qa (Qv 2) (Qd (Qo (Qp (Qq (Qs false)))))]
def Wkq:MC:=.r0 Yq9
def Yra:List MO:=[Qa (Qv 3) (Qg 0 (Qn 1)),Qa (Qv 4) (Qf 1 false (Qn 3))]
def Wkr:MC:=.r0 Yra
def Yrb:List MO:=[Qa (Qv 6) (Qe Qt Go.BinOp.eql (Qn 4) (Qo (Qp (Qq (Qr Qu 0))))),Qa (Qv 5) (Qd (Qn 6))]
def Wks:MC:=.r0 Yrb
def Yrc:List MO:=[Qa (Qv 7) (Qf 3 true (Qn 1)),Qa (Qv 8) (MOp.build [(Qr Qu 0),(Qr Qu 0),(D.str (ByteArray.mk #[]))] []),Qa (Qv 9) (MOp.eqs false [Qt,Qt,Leaf.s] (Qn 7) (Qn 8)),Qa (Qv 2) (Qd (Qn 9))]
def Wkt:MC:=.r0 Yrc
def Yrd:List MO:=[Qa (Qv 11) (Qe Qt Go.BinOp.eql (Qn 4) (Qo (Qp (Qq (Qr Qu 1))))),Qa (Qv 10) (Qd (Qn 11))]
def Wku:MC:=.r0 Yrd
def Yre:List MO:=[Qa (Qv 12) (Qg 2 (Qn 1)),Qa (Qv 13) (Qf 1 false (Qn 12)),Qa (Qv 14) (Qe Leaf.s Go.BinOp.eql (Qn 13) (Qo (Qp (Qq (D.str (ByteArray.mk #[])))))),Qa (Qv 15) (Qd (Qn 14)),Qb 15 true (Qv 16),Qa (Qv 16) (Qg 1 (Qn 1)),Qb 15 true (Qv 17),Qa (Qv 17) (Qf 1 false (Qn 16)),Qb 15 true (Qv 18),Qa (Qv 18) (Qe Qt Go.BinOp.eql (Qn 17) (Qo (Qp (Qq (Qr Qu 0))))),Qb 15 true (Qv 19),Qa (Qv 19) (Qd (Qn 18)),Qb 19 false (Qv 20),Qa (Qv 20) (Qg 1 (Qn 1)),Qb 19 false (Qv 21),Qa (Qv 21) (Qf 1 false (Qn 20)),Qb 19 false (Qv 22),Qa (Qv 22) (Qe Qt Go.BinOp.eql (Qn 21) (Qo (Qp (Qq (Qr Qu 1))))),Qb 15 true (Qv 23),Qa (Qv 23) (Qm (Qn 19) (Qo (Qp (Qq (Qs true)))) (Qn 22)),Qa (Qv 24) (Qm (Qn 15) (Qn 23) (Qo (Qp (Qq (Qs false))))),Qa (Qv 2) (Qd (Qn 24))]
def Wkv:MC:=.r0 Yre
def X35:List MO:=[Qa (Qv 26) (Qe Qt Go.BinOp.eql (Qn 4) (Qo (Qp (Qq (Qr Qu 2))))),Qa (Qv 25) (Qd (Qn 26))]
def Y0o:MC:=.r0 X35
def X36:List MO:=[Qa (Qv 27) (Qg 2 (Qn 1)),Qa (Qv 28) (Qf 1 false (Qn 27)),Qa (Qv 29) (Qe Leaf.s Go.BinOp.eql (Qn 28) (Qo (Qp (Qq (D.str (ByteArray.mk #[])))))),Qa (Qv 30) (Qd (Qn 29)),Qb 30 true (Qv 31),Qa (Qv 31) (Qg 1 (Qn 1)),Qb 30 true (Qv 32),Qa (Qv 32) (Qf 1 false (Qn 31)),Qb 30 true (Qv 33),Qa (Qv 33) (Qe Qt Go.BinOp.geq (Qn 32) (Qo (Qp (Qq (Qr Qu (-999999999999999)))))),Qa (Qv 34) (Qm (Qn 30) (Qn 33) (Qo (Qp (Qq (Qs false))))),Qa (Qv 35) (Qd (Qn 34)),Qb 35 true (Qv 36),Qa (Qv 36) (Qg 1 (Qn 1)),Qb 35 true (Qv 37),Qa (Qv 37) (Qf 1 false (Qn 36)),Qb 35 true (Qv 38),Qa (Qv 38) (Qe Qt Go.BinOp.leq (Qn 37) (Qo (Qp (Qq (Qr Qu 999999999999999))))),Qa (Qv 39) (Qm (Qn 35) (Qn 38) (Qo (Qp (Qq (Qs false))))),Qa (Qv 2) (Qd (Qn 39))]
def Y0p:MC:=.r0 X36
def X37:List MO:=[Qa (Qv 41) (Qe Qt Go.BinOp.eql (Qn 4) (Qo (Qp (Qq (Qr Qu 3))))),Qa (Qv 40) (Qd (Qn 41))]
def Y0q:MC:=.r0 X37
def X38:List MO:=[Qa (Qv 42) (Qg 1 (Qn 1)),Qa (Qv 43) (Qf 1 false (Qn 42)),Qa (Qv 44) (Qe Qt Go.BinOp.eql (Qn 43) (Qo (Qp (Qq (Qr Qu 0))))),Qa (Qv 45) (Qd (Qn 44)),Qb 45 true (Qv 46),Qa (Qv 46) (Qg 2 (Qn 1)),Qb 45 true (Qv 47),Qa (Qv 47) (Qf 1 false (Qn 46)),Qb 45 true (Qv 48),Qa (Qv 48) (Qh 40 [(Qn 47)]),Qa (Qv 49) (Qm (Qn 45) (Qn 48) (Qo (Qp (Qq (Qs false))))),Qa (Qv 2) (Qd (Qn 49))]
def Y0r:MC:=.r0 X38
def Y0s:MC:=.seq Y0o (.cond (Qn 25) (.seq Y0p .ret) (.seq Y0q (.cond (Qn 40) (.seq Y0r .ret) .skip)))
def Y0t:MC:=.cond (Qn 5) (.seq Wkt .ret) (.seq Wku (.cond (Qn 10) (.seq Wkv .ret) Y0s))
def X39:List MO:=[Qa (Qv 2) (Qd (Qo (Qp (Qq (Qs false)))))]
def Y0u:MC:=.r0 X39
def Y0v:MC:=.seq (.seq Wkr (.blk 0 (.seq Wks Y0t))) (.seq Y0u .ret)
def X4a:MC:=.seq Wkq Y0v
attribute [go_sem] Yq9 Yra Yrb Yrc Yrd Yre X35 X36 X37 X38 X39
theorem Wyz:KK QP 18 f18 [1] X4a [(RV.t 2)] 50:=by refine⟨func18,?_,?_,?_,?_⟩<;>kernel_rfl
theorem Wkw:Xaa QP 18=true:=by kernel_rfl
theorem Wkx (h:GI QP gp [(RV.t 2)] res 50 X4a args):Xao QP gp 18 args res:=Wyz.i Wkw h
def Yrf:List MO:=[Qa (Qv 1) (MOp.ibox (Qn 0)),Qa (Qv 2) (Qd (Qo (Qp (Qq (Qr Qu 0))))),Qa (Qv 3) (Qd (Qo (Qp (Qq (Qr Qu 0)))))]
def Wky:MC:=.r0 Yrf
def Yrg:List MO:=[Qa (Qv 4) (Qf 2 true (Qn 1)),Qa (Qv 5) (Qh 42 [(Qn 4)]),Qa (Qv 6) (Qh 41 [(Qn 5)]),Qa (Qv 7) (Qi (Qn 6) 0),Qa (Qv 8) (Qi (Qn 6) 1),Qa (Qv 2) (Qd (Qn 7)),Qa (Qv 3) (Qd (Qn 8))]
def Wkz:MC:=.r0 Yrg
def Yrh:MC:=.seq Wky (.seq Wkz .ret)
attribute [go_sem] Yrf Yrg
theorem Wy0:KK QP 19 f19 [1] Yrh [(RV.t 2),(RV.t 3)] 9:=by refine⟨func19,?_,?_,?_,?_⟩<;>kernel_rfl
theorem Wk0:Xaa QP 19=true:=by kernel_rfl
theorem Wk1 (h:GI QP gp [(RV.t 2),(RV.t 3)] res 9 Yrh args):Xao QP gp 19 args res:=Wy0.i Wk0 h
def Yri:List MO:=[Qa (Qv 4) (Qd (Qo (Qp (Qq (Qs false)))))]
def Wk2:MC:=.r0 Yri
def Yrj:List MO:=[Qa (Qv 6) (Qd (Qn 0)),Qa (Qv 7) (Qk Qt (Qn 6)),Qa (Qv 8) (Qd (Qn 1)),Qa (Qv 9) (Qk Qt (Qn 8)),Qa (Qv 10) (Qe Qt Go.BinOp.neq (Qn 7) (Qn 9))]
def Wk3:MC:=.r0 Yrj
def Yrk:List MO:=[Qa (Qv 4) (Qd (Qo (Qp (Qq (Qs false)))))]
def Wk4:MC:=.r0 Yrk
def Yrl:List MO:=[Qa (Qv 5) (Qd (Qo (Qp (Qq (Qr Qu 0)))))]
def Wk5:MC:=.r0 Yrl
def Yrm:List MO:=[Qa (Qv 11) (Qd (Qn 5)),Qa (Qv 12) (Qd (Qn 0)),Qa (Qv 13) (Qk Qt (Qn 12)),Qa (Qv 14) (Qe Qt Go.BinOp.lss (Qn 11) (Qn 13))]
def Wk6:MC:=.r0 Yrm
def X4b:List MO:=[Qa (Qv 17) (Qd (Qn 0)),Qa (Qv 18) (Qd (Qn 5)),Qa (Qv 19) (Qj 1 (Qn 17) (Qn 18)),Qa (Qv 20) (Qf 1 false (Qn 19)),Qa (Qv 21) (Qd (Qn 1)),Qa (Qv 22) (Qd (Qn 5)),Qa (Qv 23) (Qj 1 (Qn 21) (Qn 22)),Qa (Qv 24) (Qf 1 false (Qn 23)),Qa (Qv 25) (Qe Leaf.s Go.BinOp.neq (Qn 20) (Qn 24))]
def Y0w:MC:=.reg true X4b
def X4c:List MO:=[Qa (Qv 4) (Qd (Qo (Qp (Qq (Qs false)))))]
def Y0x:MC:=.r0 X4c
def X4d:List MO:=[Qa (Qv 15) (Qd (Qn 5)),Qa (Qv 16) (Qe Qt Go.BinOp.add (Qn 15) (Qo (Qp (Qq (Qr Qu 1))))),Qa (Qv 5) (Qd (Qn 16))]
def Y0y:MC:=.r0 X4d
def Y0z:MC:=.seq (.seq Wk6 (.cond (Qn 14) .skip (MC.exit 0))) (.seq (.blk 1 (.seq Y0w (.cond (Qn 25) (.seq Y0x .ret) .skip))) Y0y)
def X4e:List MO:=[Qa (Qv 4) (Qd (Qo (Qp (Qq (Qs true)))))]
def Y00:MC:=.r0 X4e
def Y01:MC:=.seq (.seq Wk3 (.cond (Qn 10) (.seq Wk4 .ret) .skip)) (.seq (.seq Wk5 (.blk 0 (.loop Y0z))) (.seq Y00 .ret))
def X4f:MC:=.seq Wk2 Y01
attribute [go_sem] Yri Yrj Yrk Yrl Yrm X4b X4c X4d X4e
theorem Wy1:KK QP 23 f23 [] X4f [(RV.t 4)] 26:=by refine⟨func23,?_,?_,?_,?_⟩<;>kernel_rfl
theorem Wk7:Xaa QP 23=true:=by kernel_rfl
theorem Wk8 (h:GI QP gp [(RV.t 4)] res 26 X4f args):Xao QP gp 23 args res:=Wy1.i Wk7 h
def Yrn:List MO:=[Qa (Qv 6) (MOp.alloc [(Qr Qu 0),(D.str (ByteArray.mk #[])),(Qr Qu 0),(Qr Qu 0),(D.str (ByteArray.mk #[])),(D.sl []),(D.sl [])])]
def Wk9:MC:=.r0 Yrn
def Yro:List MO:=[Qa (Qv 11) (Qg 1 (Qn 1)),Qa (Qv 12) (Qf 1 false (Qn 11)),Qa (Qv 13) (Qd (Qn 0)),Qa (Qv 14) (Qj 6 (Qn 12) (Qn 13)),Qa (Qv 15) (Qf 6 true (Qn 14)),Qa (Qv 7) (MOp.alloc [(Qr Qu 0),(Qr Qu 0),(Qr Qu 0),(D.str (ByteArray.mk #[])),(D.sl []),(D.sl [])]),Qa none (Ql 6 (Qn 7) (Qn 15))]
def Wla:MC:=.r0 Yro
def Yrp:List MO:=[Qa (Qv 16) (Qg 0 (Qn 7)),Qa (Qv 17) (MOp.cld 1 false (Qn 16)),Qa (Qv 18) (Qg 1 (Qn 7)),Qa (Qv 19) (MOp.cld 3 true (Qn 18)),Qa (Qv 20) (Qg 4 (Qn 7)),Qa (Qv 21) (MOp.cld 1 false (Qn 20)),Qa (Qv 22) (Qh 30 [(Qn 21)]),Qa (Qv 23) (MOp.build [(Qr Qu 0),(D.str (ByteArray.mk #[])),(Qr Qu 0),(Qr Qu 0),(D.str (ByteArray.mk #[])),(D.sl []),(D.sl [])] [(0,(1,(Qn 17))),(2,(3,(Qn 19))),(5,(1,(Qn 22)))]),Qa (Qv 8) (MOp.alloc [(Qr Qu 0),(D.str (ByteArray.mk #[])),(Qr Qu 0),(Qr Qu 0),(D.str (ByteArray.mk #[])),(D.sl []),(D.sl [])]),Qa none (Ql 7 (Qn 8) (Qn 23))]
def Wlb:MC:=.reg true Yrp
def Yrq:List MO:=[Qa (Qv 24) (Qf 1 false (Qn 2)),Qa (Qv 25) (Qd (Qn 0)),Qa (Qv 26) (Qj 1 (Qn 24) (Qn 25)),Qa (Qv 27) (Qf 1 false (Qn 26)),Qa (Qv 28) (Qe Qt Go.BinOp.gtr (Qn 27) (Qo (Qp (Qq (Qr Qu 0)))))]
def Wlc:MC:=.r0 Yrq
def Yrr:List MO:=[Qa (Qv 29) (Qf 1 false (Qn 2)),Qa (Qv 30) (Qd (Qn 0)),Qa (Qv 31) (Qj 1 (Qn 29) (Qn 30)),Qa (Qv 32) (Qf 1 false (Qn 31)),Qa (Qv 33) (Qh 31 [(Qn 32)]),Qa (Qv 34) (Qe Leaf.s Go.BinOp.add (Qo (Qp (Qq (D.str (ByteArray.mk #[97]))))) (Qn 33)),Qa (Qv 35) (Qg 1 (Qn 8)),Qa none (Ql 1 (Qn 35) (Qn 34))]
def Wld:MC:=.r0 Yrr
def Yrs:List MO:=[Qa (Qv 36) (Qg 1 (Qn 8)),Qa (Qv 37) (Qf 1 false (Qn 36)),Qa (Qv 38) (Qe Leaf.s Go.BinOp.neq (Qn 37) (Qo (Qp (Qq (D.str (ByteArray.mk #[])))))),Qa (Qv 39) (Qd (Qn 38)),Qb 39 true (Qv 40),Qa (Qv 40) (Qf 1 false (Qn 3)),Qb 39 true (Qv 41),Qa (Qv 41) (Qd (Qn 0)),Qb 39 true (Qv 42),Qa (Qv 42) (MOp.lkp false (Qp (Qq (Qs false))) false [Qt] (Qn 40) (Qn 41)),Qa (Qv 43) (Qm (Qn 39) (Qn 42) (Qo (Qp (Qq (Qs false)))))]
def Wle:MC:=.r0 Yrs
def Yrt:List MO:=[Qa (Qv 44) (Qg 1 (Qn 8)),Qa (Qv 45) (Qf 1 false (Qn 44)),Qa (Qv 46) (MOp.build [(Qr Qu 0),(D.str (ByteArray.mk #[])),(Qr Qu 0),(Qr Qu 0),(D.str (ByteArray.mk #[])),(D.sl []),(D.sl [])] [(0,(1,(Qo (Qp (Qq (Qr Qu 3)))))),(1,(1,(Qn 45)))]),Qa none (Ql 7 (Qn 6) (Qn 46))]
def Wlf:MC:=.r0 Yrt
def X4g:List MO:=[Qa (Qv 47) (Qf 1 false (Qn 3)),Qa (Qv 48) (Qd (Qn 0)),Qa none (MOp.mupd false [Qt] (Qn 47) (Qn 48) (Qo (Qp (Qq (Qs true)))))]
def Y02:MC:=.r0 X4g
def X4h:List MO:=[Qa (Qv 49) (Qg 5 (Qn 7)),Qa (Qv 50) (Qf 1 false (Qn 49)),Qa (Qv 51) (Qk Qt (Qn 50)),Qa (Qv 52) (Qd (Qo (Qp (Qq (Qr Qu 0)))))]
def Y03:MC:=.r0 X4h
def X4i:List MO:=[Qa (Qv 53) (Qe Qt Go.BinOp.lss (Qn 52) (Qn 51))]
def Y04:MC:=.r0 X4i
def X4j:List MO:=[Qa (Qv 54) (Qj 1 (Qn 50) (Qn 52)),Qa (Qv 55) (Qf 1 false (Qn 54)),Qa (Qv 10) (Qd (Qn 55))]
def Y05:MC:=.r0 X4j
def Xdo:List MO:=[Qa (Qv 56) (Qg 6 (Qn 8)),Qa (Qv 57) (MOp.cld 1 false (Qn 56)),Qa (Qv 58) (MOp.cld 1 false (Qn 4)),Qa (Qv 59) (Qd (Qn 10)),Qa (Qv 60) (MOp.callvF (Qn 58) [(Qn 59)]),Qa (Qv 61) (MOp.bslice 7 [(Qr Qu 0),(D.str (ByteArray.mk #[])),(Qr Qu 0),(Qr Qu 0),(D.str (ByteArray.mk #[])),(D.sl []),(D.sl [])] 1 [(0,(Qn 60))]),Qa (Qv 62) (MOp.app 32 7 104 (Qn 57) (Qn 61)),Qa (Qv 63) (Qg 6 (Qn 8)),Qa none (Ql 1 (Qn 63) (Qn 62))]
def Y06:MC:=.reg true Xdo
def X4k:List MO:=[Qa (Qv 64) (Qe Qt Go.BinOp.add (Qn 52) (Qo (Qp (Qq (Qr Qu 1))))),Qa (Qv 52) (Qd (Qn 64))]
def Y07:MC:=.r0 X4k
def Y08:MC:=.seq Y04 (.seq (.cond (Qn 53) .skip (MC.exit 0)) (.seq (.blk 1 (.seq Y05 Y06)) Y07))
def Xdp:List MO:=[Qa (Qv 65) (Qf 7 true (Qn 8)),Qa none (Ql 7 (Qn 6) (Qn 65))]
def Y09:MC:=.r0 Xdp
def Y1a:MC:=.seq Y02 (.seq (.seq Y03 (.blk 0 (.loop Y08))) (.seq Y09 .ret))
def Y1b:MC:=.seq (.seq Wlc (.cond (Qn 28) Wld .skip)) (.seq (.seq Wle (.cond (Qn 43) (.seq Wlf .ret) .skip)) Y1a)
def X4l:MC:=.seq Wk9 (.seq Wla (.seq Wlb Y1b))
attribute [go_sem] Yrn Yro Yrp Yrq Yrr Yrs Yrt X4g X4h X4i X4j X4k
theorem Wy2:KK QP 29 f29 [2000,6060] X4l [(RV.cell 6 7 true)] 66:=by refine⟨func29,?_,?_,?_,?_⟩<;>kernel_rfl
theorem X4m:Xaa QP 29=true:=by kernel_rfl
theorem Y1c (h:GT QP gp [(RV.cell 6 7 true)] pre R 66 X4l args):Tri QP gp 29 args pre R:=Wy2.t h
def Xl7:List MO:=[Qa (Qv 2) (Qd (Qo (Qp A.nil)))]
def Wlg:MC:=.r0 Xl7
def Xl8:List MO:=[Qa (Qv 3) (Qd (Qn 0)),Qa (Qv 4) (MOp.nilq NK.sl false (Qn 3))]
def Wlh:MC:=.r0 Xl8
def Xoc:List MO:=[Qa (Qv 2) (Qd (Qo (Qp A.nil)))]
def Wli:MC:=.r0 Xoc
def Xod:List MO:=[Qa (Qv 5) (MOp.bslO 3 [(Qr Qu 0),(Qr Qu 0),(D.str (ByteArray.mk #[]))] 0 []),Qa (Qv 6) (Qd (Qn 0)),Qa (Qv 7) (MOp.app 28 3 32 (Qn 5) (Qn 6)),Qa (Qv 2) (Qd (Qn 7))]
def Wlj:MC:=.r0 Xod
def X4n:MC:=.seq Wlg (.seq (.seq Wlh (.cond (Qn 4) (.seq Wli .ret) .skip)) (.seq Wlj .ret))
theorem Wy3:KK QP 30 f30 [5] X4n [(RV.t 2)] 8:=by refine⟨func30,?_,?_,?_,?_⟩<;>kernel_rfl
theorem Wlk:Xaa QP 30=true:=by kernel_rfl
theorem Wll (h:GI QP gp [(RV.t 2)] res 8 X4n args):Xao QP gp 30 args res:=Wy3.i Wlk h
def Yru:List MO:=[Qa (Qv 3) (MOp.box (Qn 0)),Qa (Qv 4) (MOp.ibox (Qn 1)),Qa (Qv 5) (MOp.box (Qn 2)),Qa (Qv 6) (Qd (Qo (Qp (Qq (Qr Qu 0))))),Qa (Qv 7) (Qd (Qo (Qp (Qq D.nilI))))]
def Wlm:MC:=.r0 Yru
def Yrv:List MO:=[Qa (Qv 14) (Qf 1 false (Qn 3)),Qa (Qv 15) (Qf 7 true (Qn 4)),Qa (Qv 16) (Qf 1 false (Qn 5)),Qa (Qv 17) (Qh 57 [(Qn 14),(Qn 15),(Qn 16)]),Qa (Qv 8) (Qd (Qn 17))]
def Wln:MC:=.r0 Yrv
def Yrw:List MO:=[Qa (Qv 18) (Qd (Qn 8)),Qa (Qv 19) (MOp.nilq NK.ifc true (Qn 18))]
def Wlo:MC:=.r0 Yrw
def Yrx:List MO:=[Qa (Qv 20) (Qd (Qn 8)),Qa (Qv 6) (Qd (Qo (Qp (Qq (Qr Qu 0))))),Qa (Qv 7) (Qd (Qn 20))]
def Wlp:MC:=.r0 Yrx
def X4o:List MO:=[Qa (Qv 21) (Qg 0 (Qn 4)),Qa (Qv 22) (Qg 0 (Qn 21)),Qa (Qv 23) (Qf 1 false (Qn 22)),Qa (Qv 24) (Qe Qt Go.BinOp.eql (Qn 23) (Qo (Qp (Qq (Qr Qu 3)))))]
def Y1d:MC:=.r0 X4o
def X4p:List MO:=[Qa (Qv 25) (MOp.cld 1 false (Qn 3)),Qa (Qv 26) (MOp.nck (Qn 25)),Qa (Qv 27) (Qg 2 (Qn 26)),Qa (Qv 28) (MOp.cld 1 false (Qn 27)),Qa (Qv 29) (Qg 0 (Qn 4)),Qa (Qv 30) (Qg 1 (Qn 29)),Qa (Qv 31) (MOp.cld 1 false (Qn 30)),Qa (Qv 32) (MOp.lkp false (Qp (Qq (Qr Qu 0))) false [Leaf.s] (Qn 28) (Qn 31)),Qa (Qv 6) (Qd (Qn 32)),Qa (Qv 7) (Qd (Qo (Qp (Qq D.nilI))))]
def Y1e:MC:=.reg true X4p
def X4q:List MO:=[Qa (Qv 33) (Qf 1 false (Qn 3)),Qa (Qv 34) (MOp.nck (Qn 33)),Qa (Qv 35) (Qg 0 (Qn 34)),Qa (Qv 36) (Qg 1 (Qn 35)),Qa (Qv 37) (Qf 1 false (Qn 36)),Qa (Qv 38) (Qk Qt (Qn 37)),Qa (Qv 9) (MOp.alloc [(Qr Qu 0)]),Qa none (Ql 1 (Qn 9) (Qn 38))]
def Y1f:MC:=.r0 X4q
def Xdq:List MO:=[Qa (Qv 39) (MOp.cld 1 false (Qn 3)),Qa (Qv 40) (MOp.cld 1 false (Qn 3)),Qa (Qv 41) (MOp.nck (Qn 40)),Qa (Qv 42) (Qg 0 (Qn 41)),Qa (Qv 43) (Qg 1 (Qn 42)),Qa (Qv 44) (MOp.cld 1 false (Qn 43)),Qa (Qv 45) (Qg 0 (Qn 4)),Qa (Qv 46) (Qg 0 (Qn 45)),Qa (Qv 47) (MOp.cld 1 false (Qn 46)),Qa (Qv 48) (Qg 0 (Qn 4)),Qa (Qv 49) (Qg 2 (Qn 48)),Qa (Qv 50) (MOp.cld 3 true (Qn 49)),Qa (Qv 51) (Qg 0 (Qn 4)),Qa (Qv 52) (Qg 5 (Qn 51)),Qa (Qv 53) (MOp.cld 1 false (Qn 52)),Qa (Qv 54) (Qh 30 [(Qn 53)]),Qa (Qv 55) (MOp.build [(Qr Qu 0),(Qr Qu 0),(Qr Qu 0),(D.str (ByteArray.mk #[])),(D.raw (Go.Value.slice none 0 0)),(D.raw (Go.Value.slice none 0 0))] [(0,(1,(Qn 47))),(1,(3,(Qn 50))),(4,(1,(Qn 54)))]),Qa (Qv 56) (MOp.bslice 6 [(Qr Qu 0),(Qr Qu 0),(Qr Qu 0),(D.str (ByteArray.mk #[])),(D.sl []),(D.sl [])] 1 [(0,(Qn 55))]),Qa (Qv 57) (MOp.app 40 6 88 (Qn 44) (Qn 56)),Qa (Qv 58) (MOp.nck (Qn 39)),Qa (Qv 59) (Qg 0 (Qn 58)),Qa (Qv 60) (Qg 1 (Qn 59)),Qa none (Ql 1 (Qn 60) (Qn 57))]
def Y1g:MC:=.reg true Xdq
def X4r:List MO:=[Qa (Qv 61) (Qg 0 (Qn 4)),Qa (Qv 62) (Qg 1 (Qn 61)),Qa (Qv 63) (Qf 1 false (Qn 62)),Qa (Qv 64) (Qe Leaf.s Go.BinOp.neq (Qn 63) (Qo (Qp (Qq (D.str (ByteArray.mk #[]))))))]
def Y1h:MC:=.r0 X4r
def X4s:List MO:=[Qa (Qv 65) (MOp.cld 1 false (Qn 3)),Qa (Qv 66) (MOp.nck (Qn 65)),Qa (Qv 67) (Qg 2 (Qn 66)),Qa (Qv 68) (MOp.cld 1 false (Qn 67)),Qa (Qv 69) (Qg 0 (Qn 4)),Qa (Qv 70) (Qg 1 (Qn 69)),Qa (Qv 71) (MOp.cld 1 false (Qn 70)),Qa (Qv 72) (MOp.cld 1 false (Qn 9)),Qa none (MOp.mupd false [Leaf.s] (Qn 68) (Qn 71) (Qn 72))]
def Y1i:MC:=.reg true X4s
def X4t:List MO:=[Qa (Qv 73) (MOp.mkF (Go.Fn.func 58) [(Qn 3),(Qn 5),(Qn 9)]),Qa (Qv 10) (Qd (Qn 73))]
def Y1j:MC:=.r0 X4t
def X4u:List MO:=[Qa (Qv 74) (Qg 0 (Qn 4)),Qa (Qv 75) (Qg 6 (Qn 74)),Qa (Qv 76) (Qf 1 false (Qn 75)),Qa (Qv 77) (Qk Qt (Qn 76)),Qa (Qv 78) (Qd (Qo (Qp (Qq (Qr Qu 0)))))]
def Y1k:MC:=.r0 X4u
def X4v:List MO:=[Qa (Qv 79) (Qe Qt Go.BinOp.lss (Qn 78) (Qn 77))]
def Y1l:MC:=.r0 X4v
def X4w:List MO:=[Qa (Qv 80) (Qj 7 (Qn 76) (Qn 78)),Qa (Qv 81) (Qf 7 true (Qn 80)),Qa (Qv 12) (MOp.alloc [(Qr Qu 0),(D.str (ByteArray.mk #[])),(Qr Qu 0),(Qr Qu 0),(D.str (ByteArray.mk #[])),(D.sl []),(D.sl [])]),Qa none (Ql 7 (Qn 12) (Qn 81))]
def Y1m:MC:=.r0 X4w
def X4x:List MO:=[Qa (Qv 82) (Qd (Qn 10)),Qa (Qv 83) (Qf 7 true (Qn 12)),Qa (Qv 84) (MOp.callv (Qn 82) [(Qn 83)]),Qa (Qv 13) (Qd (Qn 84))]
def Y1n:MC:=.r0 X4x
def X4y:List MO:=[Qa (Qv 85) (Qd (Qn 13)),Qa (Qv 86) (MOp.nilq NK.ifc true (Qn 85))]
def Y1o:MC:=.r0 X4y
def X4z:List MO:=[Qa (Qv 87) (Qd (Qn 13)),Qa (Qv 6) (Qd (Qo (Qp (Qq (Qr Qu 0))))),Qa (Qv 7) (Qd (Qn 87))]
def Y1p:MC:=.r0 X4z
def Y1q:MC:=.seq Y1m (.seq Y1n (.seq Y1o (.cond (Qn 86) (.seq Y1p .ret) .skip)))
def X40:List MO:=[Qa (Qv 88) (Qe Qt Go.BinOp.add (Qn 78) (Qo (Qp (Qq (Qr Qu 1))))),Qa (Qv 78) (Qd (Qn 88))]
def Y1r:MC:=.r0 X40
def Y1s:MC:=.seq Y1k (.blk 0 (.loop (.seq Y1l (.seq (.cond (Qn 79) .skip (MC.exit 0)) (.seq (.blk 1 Y1q) Y1r)))))
def X41:List MO:=[Qa (Qv 89) (Qf 1 false (Qn 9)),Qa (Qv 6) (Qd (Qn 89)),Qa (Qv 7) (Qd (Qo (Qp (Qq D.nilI))))]
def Y1t:MC:=.r0 X41
def Y1u:MC:=.seq (.seq Y1h (.cond (Qn 64) Y1i .skip)) (.seq Y1j (.seq Y1s (.seq Y1t .ret)))
def Y1v:MC:=.seq (.seq Y1d (.cond (Qn 24) (.seq Y1e .ret) .skip)) (.seq Y1f (.seq Y1g Y1u))
def Y1w:MC:=.seq (.seq Wln (.seq Wlo (.cond (Qn 19) (.seq Wlp .ret) .skip))) Y1v
def X42:MC:=.seq Wlm Y1w
attribute [go_sem] Yru Yrv Yrw Yrx X4o X4p X4q X4r X4s X4t X4u X4v X4w X4x X4y X4z X40 X41
theorem Wy4:KK QP 32 f32 [2000,55,4] X42 [(RV.t 6),(RV.t 7)] 90:=by refine⟨func32,?_,?_,?_,?_⟩<;>kernel_rfl
theorem Yry:Xaa QP 32=true:=by kernel_rfl
theorem Xt5 (h:GT QP gp [(RV.t 6),(RV.t 7)] pre R 90 X42 args):Tri QP gp 32 args pre R:=Wy4.t h
def Yrz:List MO:=[Qa (Qv 2) (Qd (Qo (Qp (Qq (Qr Qu 0)))))]
def Wlq:MC:=.r0 Yrz
def Yr0:List MO:=[Qa (Qv 3) (MOp.alloc [(Qr Qu 0)])]
def Wlr:MC:=.r0 Yr0
def Yr1:List MO:=[Qa (Qv 4) (Qd (Qn 0)),Qa (Qv 5) (Qf 1 false (Qo (Qp (Qq (D.raw (Go.Value.pointer (Qv (Go.Addr.mk 0 0 none)))))))),Qa (Qv 6) (Qh 59 [(Qn 4),(Qn 5)]),Qa (Qv 7) (Qd (Qn 6)),Qb 7 true (Qv 8),Qa (Qv 8) (Qd (Qn 0)),Qb 7 true (Qv 9),Qa (Qv 9) (MOp.mkI 109 (Qn 3)),Qb 7 true (Qv 10),Qa (Qv 10) (Qh 60 [(Qn 8),(Qn 9)]),Qa (Qv 11) (Qm (Qn 7) (Qn 10) (Qo (Qp (Qq (Qs false)))))]
def Wls:MC:=.r0 Yr1
def Yr2:List MO:=[Qa (Qv 12) (Qg 0 (Qn 3)),Qa (Qv 13) (Qf 1 false (Qn 12)),Qa (Qv 2) (Qd (Qn 13))]
def Wlt:MC:=.r0 Yr2
def Yr3:List MO:=[Qa (Qv 2) (Qd (Qo (Qp (Qq (Qr Qu 0)))))]
def Wlu:MC:=.r0 Yr3
def Y1x:MC:=.seq Wlr (.seq (.seq Wls (.cond (Qn 11) (.seq Wlt .ret) .skip)) (.seq Wlu .ret))
def X43:MC:=.seq Wlq Y1x
attribute [go_sem] Yrz Yr0 Yr1 Yr2 Yr3
theorem Wy5:KK QP 33 f33 [] X43 [(RV.t 2)] 14:=by refine⟨func33,?_,?_,?_,?_⟩<;>kernel_rfl
theorem Wlv:Xaa QP 33=true:=by kernel_rfl
theorem Wlw (h:GI QP gp [(RV.t 2)] res 14 X43 args):Xao QP gp 33 args res:=Wy5.i Wlv h
def Yr4:List MO:=[Qa (Qv 1) (MOp.ibox (Qn 0)),Qa (Qv 2) (Qd (Qo (Qp (Qq D.nilF))))]
def Wlx:MC:=.r0 Yr4
def Yr5:List MO:=[Qa (Qv 3) (MOp.mkF (Go.Fn.func 61) [(Qn 1)]),Qa (Qv 2) (Qd (Qn 3))]
def Wly:MC:=.r0 Yr5
def Yr6:MC:=.seq Wlx (.seq Wly .ret)
attribute [go_sem] Yr4 Yr5
theorem Wy6:KK QP 34 f34 [1] Yr6 [(RV.t 2)] 4:=by refine⟨func34,?_,?_,?_,?_⟩<;>kernel_rfl
theorem Wlz:Xaa QP 34=true:=by kernel_rfl
theorem Wl0 (h:GI QP gp [(RV.t 2)] res 4 Yr6 args):Xao QP gp 34 args res:=Wy6.i Wlz h
def Yr7:List MO:=[Qa (Qv 2) (MOp.ibox (Qn 0)),Qa (Qv 3) (MOp.ibox (Qn 1)),Qa (Qv 4) (Qd (Qo (Qp (Qq (Qs false)))))]
def Wl1:MC:=.r0 Yr7
def Yr8:List MO:=[Qa (Qv 5) (Qg 0 (Qn 2)),Qa (Qv 6) (Qf 1 false (Qn 5)),Qa (Qv 7) (Qg 0 (Qn 3)),Qa (Qv 8) (Qf 1 false (Qn 7)),Qa (Qv 9) (Qe Qt Go.BinOp.eql (Qn 6) (Qn 8)),Qa (Qv 10) (Qd (Qn 9)),Qb 10 true (Qv 11),Qa (Qv 11) (Qg 1 (Qn 2)),Qb 10 true (Qv 12),Qa (Qv 12) (Qf 3 true (Qn 11)),Qb 10 true (Qv 13),Qa (Qv 13) (Qg 1 (Qn 3)),Qb 10 true (Qv 14),Qa (Qv 14) (Qf 3 true (Qn 13)),Qb 10 true (Qv 15),Qa (Qv 15) (MOp.eqs false [Qt,Qt,Leaf.s] (Qn 12) (Qn 14)),Qa (Qv 16) (Qm (Qn 10) (Qn 15) (Qo (Qp (Qq (Qs false))))),Qa (Qv 17) (Qd (Qn 16)),Qb 17 true (Qv 18),Qa (Qv 18) (Qg 4 (Qn 2)),Qb 17 true (Qv 19),Qa (Qv 19) (Qf 1 false (Qn 18)),Qb 17 true (Qv 20),Qa (Qv 20) (Qg 4 (Qn 3)),Qb 17 true (Qv 21),Qa (Qv 21) (Qf 1 false (Qn 20)),Qb 17 true (Qv 22),Qa (Qv 22) (Qh 36 [(Qn 19),(Qn 21)]),Qa (Qv 23) (Qm (Qn 17) (Qn 22) (Qo (Qp (Qq (Qs false))))),Qa (Qv 24) (Qd (Qn 23)),Qb 24 true (Qv 25),Qa (Qv 25) (Qg 5 (Qn 2)),Qb 24 true (Qv 26),Qa (Qv 26) (Qf 1 false (Qn 25)),Qb 24 true (Qv 27),Qa (Qv 27) (Qg 5 (Qn 3)),Qb 24 true (Qv 28),Qa (Qv 28) (Qf 1 false (Qn 27)),Qb 24 true (Qv 29),Qa (Qv 29) (Qh 37 [(Qn 26),(Qn 28)]),Qa (Qv 30) (Qm (Qn 24) (Qn 29) (Qo (Qp (Qq (Qs false))))),Qa (Qv 4) (Qd (Qn 30))]
def Wl2:MC:=.r0 Yr8
def Yr9:MC:=.seq Wl1 (.seq Wl2 .ret)
attribute [go_sem] Yr7 Yr8
theorem Wy7:KK QP 35 f35 [2,3] Yr9 [(RV.t 4)] 31:=by refine⟨func35,?_,?_,?_,?_⟩<;>kernel_rfl
theorem Wl3:Xaa QP 35=true:=by kernel_rfl
theorem Wl4 (h:GI QP gp [(RV.t 4)] res 31 Yr9 args):Xao QP gp 35 args res:=Wy7.i Wl3 h
def Ysa:List MO:=[Qa (Qv 4) (Qd (Qo (Qp (Qq (Qs false)))))]
def Wl5:MC:=.r0 Ysa
def Ysb:List MO:=[Qa (Qv 6) (Qd (Qn 0)),Qa (Qv 7) (Qk Qt (Qn 6)),Qa (Qv 8) (Qd (Qn 1)),Qa (Qv 9) (Qk Qt (Qn 8)),Qa (Qv 10) (Qe Qt Go.BinOp.neq (Qn 7) (Qn 9))]
def Wl6:MC:=.r0 Ysb
def Ysc:List MO:=[Qa (Qv 4) (Qd (Qo (Qp (Qq (Qs false)))))]
def Wl7:MC:=.r0 Ysc
def Ysd:List MO:=[Qa (Qv 11) (Qd (Qn 0)),Qa (Qv 12) (Qk Qt (Qn 11)),Qa (Qv 13) (Qd (Qo (Qp (Qq (Qr Qu 0)))))]
def Wl8:MC:=.r0 Ysd
def Yse:List MO:=[Qa (Qv 14) (Qe Qt Go.BinOp.lss (Qn 13) (Qn 12))]
def Wl9:MC:=.r0 Yse
def X44:List MO:=[Qa (Qv 15) (Qd (Qn 13)),Qa (Qv 5) (Qd (Qn 15))]
def Y1y:MC:=.r0 X44
def X45:List MO:=[Qa (Qv 16) (Qd (Qn 0)),Qa (Qv 17) (Qd (Qn 5)),Qa (Qv 18) (Qj 3 (Qn 16) (Qn 17)),Qa (Qv 19) (Qf 3 true (Qn 18)),Qa (Qv 20) (Qd (Qn 1)),Qa (Qv 21) (Qd (Qn 5)),Qa (Qv 22) (Qj 3 (Qn 20) (Qn 21)),Qa (Qv 23) (Qf 3 true (Qn 22)),Qa (Qv 24) (MOp.eqs true [Qt,Qt,Leaf.s] (Qn 19) (Qn 23))]
def Y1z:MC:=.reg true X45
def X46:List MO:=[Qa (Qv 4) (Qd (Qo (Qp (Qq (Qs false)))))]
def Y10:MC:=.r0 X46
def X47:List MO:=[Qa (Qv 25) (Qe Qt Go.BinOp.add (Qn 13) (Qo (Qp (Qq (Qr Qu 1))))),Qa (Qv 13) (Qd (Qn 25))]
def Y11:MC:=.r0 X47
def Y12:MC:=.seq (.blk 1 (.seq Y1y (.seq Y1z (.cond (Qn 24) (.seq Y10 .ret) .skip)))) Y11
def X48:List MO:=[Qa (Qv 4) (Qd (Qo (Qp (Qq (Qs true)))))]
def Y13:MC:=.r0 X48
def Y14:MC:=.seq (.seq Wl8 (.blk 0 (.loop (.seq Wl9 (.seq (.cond (Qn 14) .skip (MC.exit 0)) Y12))))) (.seq Y13 .ret)
def X49:MC:=.seq Wl5 (.seq (.seq Wl6 (.cond (Qn 10) (.seq Wl7 .ret) .skip)) Y14)
attribute [go_sem] Ysa Ysb Ysc Ysd Yse X44 X45 X46 X47 X48
theorem Wy8:KK QP 36 f36 [] X49 [(RV.t 4)] 26:=by refine⟨func36,?_,?_,?_,?_⟩<;>kernel_rfl
theorem Wma:Xaa QP 36=true:=by kernel_rfl
theorem Wmb (h:GI QP gp [(RV.t 4)] res 26 X49 args):Xao QP gp 36 args res:=Wy8.i Wma h
def Ysf:List MO:=[Qa (Qv 4) (Qd (Qo (Qp (Qq (Qs false)))))]
def Wmc:MC:=.r0 Ysf
def Ysg:List MO:=[Qa (Qv 6) (Qd (Qn 0)),Qa (Qv 7) (Qk Qt (Qn 6)),Qa (Qv 8) (Qd (Qn 1)),Qa (Qv 9) (Qk Qt (Qn 8)),Qa (Qv 10) (Qe Qt Go.BinOp.neq (Qn 7) (Qn 9))]
def Wmd:MC:=.r0 Ysg
def Ysh:List MO:=[Qa (Qv 4) (Qd (Qo (Qp (Qq (Qs false)))))]
def Wme:MC:=.r0 Ysh
def Ysi:List MO:=[Qa (Qv 11) (Qd (Qn 0)),Qa (Qv 12) (Qk Qt (Qn 11)),Qa (Qv 13) (Qd (Qo (Qp (Qq (Qr Qu 0)))))]
def Wmf:MC:=.r0 Ysi
def Ysj:List MO:=[Qa (Qv 14) (Qe Qt Go.BinOp.lss (Qn 13) (Qn 12))]
def Wmg:MC:=.r0 Ysj
def X5a:List MO:=[Qa (Qv 15) (Qd (Qn 13)),Qa (Qv 5) (Qd (Qn 15))]
def Y15:MC:=.r0 X5a
def X5b:List MO:=[Qa (Qv 16) (Qd (Qn 0)),Qa (Qv 17) (Qd (Qn 5)),Qa (Qv 18) (Qj 1 (Qn 16) (Qn 17)),Qa (Qv 19) (Qf 1 false (Qn 18)),Qa (Qv 20) (Qd (Qn 1)),Qa (Qv 21) (Qd (Qn 5)),Qa (Qv 22) (Qj 1 (Qn 20) (Qn 21)),Qa (Qv 23) (Qf 1 false (Qn 22)),Qa (Qv 24) (Qe Qt Go.BinOp.neq (Qn 19) (Qn 23))]
def Y16:MC:=.reg true X5b
def X5c:List MO:=[Qa (Qv 4) (Qd (Qo (Qp (Qq (Qs false)))))]
def Y17:MC:=.r0 X5c
def X5d:List MO:=[Qa (Qv 25) (Qe Qt Go.BinOp.add (Qn 13) (Qo (Qp (Qq (Qr Qu 1))))),Qa (Qv 13) (Qd (Qn 25))]
def Y18:MC:=.r0 X5d
def Y19:MC:=.seq (.blk 1 (.seq Y15 (.seq Y16 (.cond (Qn 24) (.seq Y17 .ret) .skip)))) Y18
def X5e:List MO:=[Qa (Qv 4) (Qd (Qo (Qp (Qq (Qs true)))))]
def Y2a:MC:=.r0 X5e
def Y2b:MC:=.seq (.seq Wmf (.blk 0 (.loop (.seq Wmg (.seq (.cond (Qn 14) .skip (MC.exit 0)) Y19))))) (.seq Y2a .ret)
def X5f:MC:=.seq Wmc (.seq (.seq Wmd (.cond (Qn 10) (.seq Wme .ret) .skip)) Y2b)
attribute [go_sem] Ysf Ysg Ysh Ysi Ysj X5a X5b X5c X5d X5e
theorem Wy9:KK QP 37 f37 [] X5f [(RV.t 4)] 26:=by refine⟨func37,?_,?_,?_,?_⟩<;>kernel_rfl
theorem Wmh:Xaa QP 37=true:=by kernel_rfl
theorem Wmi (h:GI QP gp [(RV.t 4)] res 26 X5f args):Xao QP gp 37 args res:=Wy9.i Wmh h
def Ysk:List MO:=[Qa (Qv 6) (Qd (Qo (Qp (Qq (Qs false)))))]
def Wmj:MC:=.r0 Ysk
def Ysl:List MO:=[Qa (Qv 10) (Qd (Qn 0)),Qa (Qv 11) (Qk Qt (Qn 10)),Qa (Qv 12) (Qd (Qn 1)),Qa (Qv 13) (Qk Qt (Qn 12)),Qa (Qv 14) (Qe Qt Go.BinOp.neq (Qn 11) (Qn 13))]
def Wmk:MC:=.r0 Ysl
def Ysm:List MO:=[Qa (Qv 6) (Qd (Qo (Qp (Qq (Qs false)))))]
def Wml:MC:=.r0 Ysm
def Ysn:List MO:=[Qa (Qv 15) (Qd (Qn 0)),Qa (Qv 16) (Qk Qt (Qn 15)),Qa (Qv 17) (Qd (Qo (Qp (Qq (Qr Qu 0)))))]
def Wmm:MC:=.r0 Ysn
def Yso:List MO:=[Qa (Qv 18) (Qe Qt Go.BinOp.lss (Qn 17) (Qn 16))]
def Wmn:MC:=.r0 Yso
def X5g:List MO:=[Qa (Qv 19) (Qd (Qn 17)),Qa (Qv 20) (Qj 6 (Qn 15) (Qn 17)),Qa (Qv 21) (Qf 6 true (Qn 20)),Qa (Qv 8) (MOp.alloc [(Qr Qu 0),(Qr Qu 0),(Qr Qu 0),(D.str (ByteArray.mk #[])),(D.sl []),(D.sl [])]),Qa (Qv 7) (Qd (Qn 19)),Qa none (Ql 6 (Qn 8) (Qn 21))]
def Y2c:MC:=.r0 X5g
def X5h:List MO:=[Qa (Qv 22) (Qd (Qn 1)),Qa (Qv 23) (Qd (Qn 7)),Qa (Qv 24) (Qj 6 (Qn 22) (Qn 23)),Qa (Qv 25) (Qf 6 true (Qn 24)),Qa (Qv 9) (MOp.alloc [(Qr Qu 0),(Qr Qu 0),(Qr Qu 0),(D.str (ByteArray.mk #[])),(D.sl []),(D.sl [])]),Qa none (Ql 6 (Qn 9) (Qn 25))]
def Y2d:MC:=.r0 X5h
def X5i:List MO:=[Qa (Qv 26) (Qd (Qn 2)),Qa (Qv 27) (Qf 6 true (Qn 8)),Qa (Qv 28) (Qf 6 true (Qn 9)),Qa (Qv 29) (MOp.callv (Qn 26) [(Qn 27),(Qn 28)]),Qa (Qv 30) (MOp.not (Qn 29))]
def Y2e:MC:=.r0 X5i
def X5j:List MO:=[Qa (Qv 6) (Qd (Qo (Qp (Qq (Qs false)))))]
def Y2f:MC:=.r0 X5j
def Y2g:MC:=.seq Y2c (.seq Y2d (.seq Y2e (.cond (Qn 30) (.seq Y2f .ret) .skip)))
def X5k:List MO:=[Qa (Qv 31) (Qe Qt Go.BinOp.add (Qn 17) (Qo (Qp (Qq (Qr Qu 1))))),Qa (Qv 17) (Qd (Qn 31))]
def Y2h:MC:=.r0 X5k
def Y2i:MC:=.seq Wmm (.blk 0 (.loop (.seq Wmn (.seq (.cond (Qn 18) .skip (MC.exit 0)) (.seq (.blk 1 Y2g) Y2h)))))
def X5l:List MO:=[Qa (Qv 6) (Qd (Qo (Qp (Qq (Qs true)))))]
def Y2j:MC:=.r0 X5l
def Y2k:MC:=.seq (.seq Wmk (.cond (Qn 14) (.seq Wml .ret) .skip)) (.seq Y2i (.seq Y2j .ret))
def X5m:MC:=.seq Wmj Y2k
attribute [go_sem] Ysk Ysl Ysm Ysn Yso X5g X5h X5i X5j X5k X5l
theorem Wza:KK QP 38 f38 [] X5m [(RV.t 6)] 32:=by refine⟨func38,?_,?_,?_,?_⟩<;>kernel_rfl
theorem Wmo:Xaa QP 38=true:=by kernel_rfl
theorem Wmp (h:GI QP gp [(RV.t 6)] res 32 X5m args):Xao QP gp 38 args res:=Wza.i Wmo h
def Ysp:List MO:=[Qa (Qv 2) (Qd (Qo (Qp (Qq (Qs false)))))]
def Wmq:MC:=.r0 Ysp
def Ysq:List MO:=[Qa (Qv 7) (Qd (Qn 0)),Qa (Qv 8) (MOp.rng (Qn 7))]
def Wmr:MC:=.r0 Ysq
def Ysr:List MO:=[Qa (Qv 9) (MOp.nxt (Qn 8)),Qa (Qv 10) (Qi (Qn 9) 0)]
def Wms:MC:=.r0 Ysr
def Yss:List MO:=[Qa (Qv 11) (Qi (Qn 9) 1),Qa (Qv 12) (Qi (Qn 9) 2),Qa (Qv 3) (Qd (Qn 11)),Qa (Qv 4) (Qd (Qn 12))]
def Wmt:MC:=.r0 Yss
def Yst:List MO:=[Qa (Qv 14) (Qd (Qn 0)),Qa (Qv 15) (Qd (Qn 3)),Qa (Qv 16) (MOp.slcS (Qn 14) (Qv (Qn 15)) none),Qa (Qv 17) (Qh 65 [(Qn 16)]),Qa (Qv 13) (Qd (Qn 17)),Qa (Qv 18) (Qi (Qn 13) 0),Qa (Qv 19) (Qi (Qn 13) 1),Qa (Qv 5) (Qd (Qn 18)),Qa (Qv 6) (Qd (Qn 19))]
def Wmu:MC:=.r0 Yst
def Ysu:List MO:=[Qa (Qv 20) (Qd (Qn 4)),Qa (Qv 21) (Qe Qt Go.BinOp.eql (Qn 20) (Qo (Qp (Qq (Qr Go.IntKind.i32 65533))))),Qa (Qv 22) (Qd (Qn 21)),Qb 22 true (Qv 23),Qa (Qv 23) (Qd (Qn 6)),Qb 22 true (Qv 24),Qa (Qv 24) (Qe Qt Go.BinOp.eql (Qn 23) (Qo (Qp (Qq (Qr Qu 1))))),Qa (Qv 25) (Qm (Qn 22) (Qn 24) (Qo (Qp (Qq (Qs false)))))]
def Wmv:MC:=.r0 Ysu
def Ysv:List MO:=[Qa (Qv 2) (Qd (Qo (Qp (Qq (Qs false)))))]
def Wmw:MC:=.r0 Ysv
def Y2l:MC:=.seq Wmt (.seq Wmu (.seq Wmv (.cond (Qn 25) (.seq Wmw .ret) .skip)))
def X5n:List MO:=[Qa (Qv 2) (Qd (Qo (Qp (Qq (Qs true)))))]
def Y2m:MC:=.r0 X5n
def Y2n:MC:=.seq (.seq Wmr (.blk 0 (.loop (.seq Wms (.seq (.cond (Qn 10) .skip (MC.exit 0)) (.blk 1 Y2l)))))) (.seq Y2m .ret)
def X5o:MC:=.seq Wmq Y2n
attribute [go_sem] Ysp Ysq Ysr Yss Yst Ysu Ysv X5n
theorem Wzb:KK QP 40 f40 [] X5o [(RV.t 2)] 26:=by refine⟨func40,?_,?_,?_,?_⟩<;>kernel_rfl
theorem Wmx:Xaa QP 40=true:=by kernel_rfl
theorem Wmy (h:GI QP gp [(RV.t 2)] res 26 X5o args):Xao QP gp 40 args res:=Wzb.i Wmx h
def Ysw:List MO:=[Qa (Qv 2) (Qd (Qo (Qp (Qq (Qr Qu 0))))),Qa (Qv 3) (Qd (Qo (Qp (Qq (Qr Qu 0)))))]
def Wmz:MC:=.r0 Ysw
def Ysx:List MO:=[Qa (Qv 4) (MOp.alloc [(Qr Qu 0),(Qr Qu 0)])]
def Wm0:MC:=.r0 Ysx
def Ysy:List MO:=[Qa (Qv 5) (Qd (Qn 0)),Qa (Qv 6) (MOp.mkI 119 (Qn 4)),Qa (Qv 7) (Qh 60 [(Qn 5),(Qn 6)])]
def Wm1:MC:=.r0 Ysy
def Ysz:List MO:=[Qa (Qv 8) (Qg 0 (Qn 4)),Qa (Qv 9) (Qf 1 false (Qn 8)),Qa (Qv 10) (Qg 1 (Qn 4)),Qa (Qv 11) (Qf 1 false (Qn 10)),Qa (Qv 2) (Qd (Qn 9)),Qa (Qv 3) (Qd (Qn 11))]
def Wm2:MC:=.reg true Ysz
def Ys0:List MO:=[Qa (Qv 2) (Qd (Qo (Qp (Qq (Qr Qu 0))))),Qa (Qv 3) (Qd (Qo (Qp (Qq (Qr Qu 0)))))]
def Wm3:MC:=.r0 Ys0
def Y2o:MC:=.seq Wm0 (.seq (.seq Wm1 (.cond (Qn 7) (.seq Wm2 .ret) .skip)) (.seq Wm3 .ret))
def X5p:MC:=.seq Wmz Y2o
attribute [go_sem] Ysw Ysx Ysy Ysz Ys0
theorem Wzc:KK QP 41 f41 [] X5p [(RV.t 2),(RV.t 3)] 12:=by refine⟨func41,?_,?_,?_,?_⟩<;>kernel_rfl
theorem Wm4:Xaa QP 41=true:=by kernel_rfl
theorem Wm5 (h:GI QP gp [(RV.t 2),(RV.t 3)] res 12 X5p args):Xao QP gp 41 args res:=Wzc.i Wm4 h
def Ys1:List MO:=[Qa (Qv 1) (MOp.ibox (Qn 0)),Qa (Qv 2) (MOp.alloc [D.nilI])]
def Wm6:MC:=.r0 Ys1
def Ys2:List MO:=[Qa (Qv 6) (Qg 1 (Qn 1)),Qa (Qv 7) (Qf 1 false (Qn 6)),Qa (Qv 8) (Qk Qt (Qn 7)),Qa (Qv 9) (Qe Qt Go.BinOp.gtr (Qn 8) (Qo (Qp (Qq (Qr Qu 200))))),Qa (Qv 5) (Qd (Qn 9))]
def Wm7:MC:=.r0 Ys2
def Ys3:List MO:=[Qa (Qv 10) (MOp.build [(Qr Qu 0),(Qr Qu 0)] [(0,(1,(Qo (Qp (Qq (Qr Qu 0)))))),(1,(1,(Qo (Qp (Qq (Qr Qu 71))))))]),Qa (Qv 11) (MOp.mkI 118 (Qn 10)),Qa none (Ql 1 (Qn 2) (Qn 11))]
def Wm8:MC:=.r0 Ys3
def Ys4:List MO:=[Qa (Qv 13) (Qf 2 true (Qn 1)),Qa (Qv 14) (Qg 0 (Qn 1)),Qa (Qv 15) (Qf 1 false (Qn 14)),Qa (Qv 16) (Qh 66 [(Qn 13),(Qn 15)]),Qa (Qv 17) (MOp.not (Qn 16)),Qa (Qv 12) (Qd (Qn 17))]
def Wm9:MC:=.r0 Ys4
def Ys5:List MO:=[Qa (Qv 18) (MOp.build [(Qr Qu 0),(Qr Qu 0)] [(0,(1,(Qo (Qp (Qq (Qr Qu (-1))))))),(1,(1,(Qo (Qp (Qq (Qr Qu 70))))))]),Qa (Qv 19) (MOp.mkI 118 (Qn 18)),Qa none (Ql 1 (Qn 2) (Qn 19))]
def Wna:MC:=.r0 Ys5
def Y2p:MC:=.seq Wm7 (.cond (Qn 5) (.seq Wm8 .ret) (.seq Wm9 (.cond (Qn 12) (.seq Wna .ret) .skip)))
def X5q:List MO:=[Qa (Qv 20) (Qf 2 true (Qn 1)),Qa (Qv 21) (Qh 67 [(Qn 20)])]
def Y2q:MC:=.r0 X5q
def X5r:List MO:=[Qa (Qv 3) (Qd (Qn 22))]
def Y2r:MC:=.r0 X5r
def X5s:List MO:=[Qa (Qv 4) (MOp.alloc [(Qr Qu 0),(Qr Qu 0),(Qr Qu 0),(D.str (ByteArray.mk #[])),(D.sl []),(D.sl []),(Qr Qu 0)]),Qa none (Ql 7 (Qn 4) (Qn 23))]
def Y2s:MC:=.r0 X5s
def X5t:List MO:=[Qa (Qv 24) (Qf 7 true (Qn 4)),Qa (Qv 25) (Qh 68 [(Qn 24)]),Qa (Qv 26) (MOp.not (Qn 25))]
def Y2t:MC:=.r0 X5t
def X5u:List MO:=[Qa (Qv 27) (Qd (Qn 3)),Qa (Qv 28) (MOp.build [(Qr Qu 0),(Qr Qu 0)] [(0,(1,(Qn 27))),(1,(1,(Qo (Qp (Qq (Qr Qu 70))))))]),Qa (Qv 29) (MOp.mkI 118 (Qn 28)),Qa none (Ql 1 (Qn 2) (Qn 29))]
def Y2u:MC:=.r0 X5u
def Y2v:MC:=.rf (Qn 21) [22,23] (.seq Y2r Y2s) (.blk 2 (.seq Y2t (.cond (Qn 26) (.seq Y2u .ret) .skip)))
def X5v:List MO:=[Qa none (Ql 1 (Qn 2) (Qo (Qp (Qq D.nilI))))]
def Y2w:MC:=.r0 X5v
def Y2x:MC:=.seq (.blk 0 Y2p) (.seq (.seq Y2q (.blk 1 Y2v)) (.seq Y2w .ret))
def X5w:MC:=.seq Wm6 Y2x
attribute [go_sem] Ys1 Ys2 Ys3 Ys4 Ys5 X5q X5r X5s X5t X5u X5v
theorem Wzd:KK QP 42 f42 [1] X5w [(RV.cell 2 1 false)] 30:=by refine⟨func42,?_,?_,?_,?_⟩<;>kernel_rfl
theorem Wnb:Xaa QP 42=true:=by kernel_rfl
theorem Wnc (h:GI QP gp [(RV.cell 2 1 false)] res 30 X5w args):Xao QP gp 42 args res:=Wzd.i Wnb h
def Ys6:List MO:=[Qa (Qv 1) (MOp.ibox (Qn 0)),Qa (Qv 2) (MOp.alloc [(Qr Qu 0),(D.sl [])])]
def Wnd:MC:=.r0 Ys6
def Ys7:List MO:=[Qa (Qv 9) (Qg 0 (Qn 1)),Qa (Qv 10) (Qf 1 false (Qn 9)),Qa (Qv 11) (MOp.build [(Qr Qu 0),(D.sl [])] [(0,(1,(Qn 10)))]),Qa (Qv 3) (MOp.alloc [(Qr Qu 0),(D.sl [])]),Qa none (Ql 2 (Qn 3) (Qn 11))]
def Wne:MC:=.r0 Ys7
def Ys8:List MO:=[Qa (Qv 4) (Qd (Qo (Qp (Qq (Qr Qu 0)))))]
def Wnf:MC:=.r0 Ys8
def Ys9:List MO:=[Qa (Qv 12) (Qd (Qn 4)),Qa (Qv 13) (Qg 1 (Qn 1)),Qa (Qv 14) (Qf 1 false (Qn 13)),Qa (Qv 15) (Qk Qt (Qn 14)),Qa (Qv 16) (Qe Qt Go.BinOp.lss (Qn 12) (Qn 15)),Qa (Qv 17) (Qd (Qn 16)),Qb 17 true (Qv 18),Qa (Qv 18) (Qd (Qn 4)),Qb 17 true (Qv 19),Qa (Qv 19) (Qe Qt Go.BinOp.lss (Qn 18) (Qo (Qp (Qq (Qr Qu 201))))),Qa (Qv 20) (Qm (Qn 17) (Qn 19) (Qo (Qp (Qq (Qs false)))))]
def Wng:MC:=.r0 Ys9
def Yta:List MO:=[Qa (Qv 23) (Qg 1 (Qn 1)),Qa (Qv 24) (Qf 1 false (Qn 23)),Qa (Qv 25) (Qd (Qn 4)),Qa (Qv 26) (Qj 6 (Qn 24) (Qn 25)),Qa (Qv 27) (Qf 6 true (Qn 26)),Qa (Qv 5) (MOp.alloc [(Qr Qu 0),(Qr Qu 0),(Qr Qu 0),(D.str (ByteArray.mk #[])),(D.sl []),(D.sl [])]),Qa none (Ql 6 (Qn 5) (Qn 27))]
def Wnh:MC:=.r0 Yta
def Ytb:List MO:=[Qa (Qv 28) (Qg 0 (Qn 5)),Qa (Qv 29) (Qf 1 false (Qn 28)),Qa (Qv 30) (Qg 1 (Qn 5)),Qa (Qv 31) (Qf 3 true (Qn 30)),Qa (Qv 32) (Qh 73 [(Qn 31)]),Qa (Qv 33) (MOp.build [(Qr Qu 0),(Qr Qu 0),(Qr Qu 0),(D.str (ByteArray.mk #[])),(D.sl []),(D.sl [])] [(0,(1,(Qn 29))),(1,(3,(Qn 32)))]),Qa (Qv 6) (MOp.alloc [(Qr Qu 0),(Qr Qu 0),(Qr Qu 0),(D.str (ByteArray.mk #[])),(D.sl []),(D.sl [])]),Qa none (Ql 6 (Qn 6) (Qn 33))]
def Wni:MC:=.reg true Ytb
def X5x:List MO:=[Qa (Qv 7) (Qd (Qo (Qp (Qq (Qr Qu 0)))))]
def Y2y:MC:=.r0 X5x
def X5y:List MO:=[Qa (Qv 34) (Qd (Qn 7)),Qa (Qv 35) (Qg 4 (Qn 5)),Qa (Qv 36) (Qf 1 false (Qn 35)),Qa (Qv 37) (Qk Qt (Qn 36)),Qa (Qv 38) (Qe Qt Go.BinOp.lss (Qn 34) (Qn 37)),Qa (Qv 39) (Qd (Qn 38)),Qb 39 true (Qv 40),Qa (Qv 40) (Qd (Qn 7)),Qb 39 true (Qv 41),Qa (Qv 41) (Qe Qt Go.BinOp.lss (Qn 40) (Qo (Qp (Qq (Qr Qu 12))))),Qa (Qv 42) (Qm (Qn 39) (Qn 41) (Qo (Qp (Qq (Qs false)))))]
def Y2z:MC:=.r0 X5y
def X5z:List MO:=[Qa (Qv 45) (Qg 4 (Qn 6)),Qa (Qv 46) (Qf 1 false (Qn 45)),Qa (Qv 47) (Qg 4 (Qn 5)),Qa (Qv 48) (Qf 1 false (Qn 47)),Qa (Qv 49) (Qd (Qn 7)),Qa (Qv 50) (Qj 3 (Qn 48) (Qn 49)),Qa (Qv 51) (Qf 3 true (Qn 50)),Qa (Qv 52) (Qh 73 [(Qn 51)]),Qa (Qv 53) (MOp.bslice 3 [(Qr Qu 0),(Qr Qu 0),(D.str (ByteArray.mk #[]))] 1 [(0,(Qn 52))]),Qa (Qv 54) (MOp.app 28 3 32 (Qn 46) (Qn 53)),Qa (Qv 55) (Qg 4 (Qn 6)),Qa none (Ql 1 (Qn 55) (Qn 54))]
def Y20:MC:=.reg true X5z
def X50:List MO:=[Qa (Qv 43) (Qd (Qn 7)),Qa (Qv 44) (Qe Qt Go.BinOp.add (Qn 43) (Qo (Qp (Qq (Qr Qu 1))))),Qa (Qv 7) (Qd (Qn 44))]
def Y21:MC:=.r0 X50
def Y22:MC:=.seq Y2y (.blk 2 (.loop (.seq (.seq Y2z (.cond (Qn 42) .skip (MC.exit 2))) (.seq (.blk 3 Y20) Y21))))
def X51:List MO:=[Qa (Qv 8) (Qd (Qo (Qp (Qq (Qr Qu 0)))))]
def Y23:MC:=.r0 X51
def X52:List MO:=[Qa (Qv 56) (Qd (Qn 8)),Qa (Qv 57) (Qg 5 (Qn 5)),Qa (Qv 58) (Qf 1 false (Qn 57)),Qa (Qv 59) (Qk Qt (Qn 58)),Qa (Qv 60) (Qe Qt Go.BinOp.lss (Qn 56) (Qn 59)),Qa (Qv 61) (Qd (Qn 60)),Qb 61 true (Qv 62),Qa (Qv 62) (Qd (Qn 8)),Qb 61 true (Qv 63),Qa (Qv 63) (Qe Qt Go.BinOp.lss (Qn 62) (Qo (Qp (Qq (Qr Qu 12))))),Qa (Qv 64) (Qm (Qn 61) (Qn 63) (Qo (Qp (Qq (Qs false)))))]
def Y24:MC:=.r0 X52
def X53:List MO:=[Qa (Qv 67) (Qg 5 (Qn 6)),Qa (Qv 68) (Qf 1 false (Qn 67)),Qa (Qv 69) (Qg 5 (Qn 5)),Qa (Qv 70) (Qf 1 false (Qn 69)),Qa (Qv 71) (Qd (Qn 8)),Qa (Qv 72) (Qj 1 (Qn 70) (Qn 71)),Qa (Qv 73) (Qf 1 false (Qn 72)),Qa (Qv 74) (MOp.bslice 1 [(Qr Qu 0)] 1 [(0,(Qn 73))]),Qa (Qv 75) (MOp.app 3 1 8 (Qn 68) (Qn 74)),Qa (Qv 76) (Qg 5 (Qn 6)),Qa none (Ql 1 (Qn 76) (Qn 75))]
def Y25:MC:=.reg true X53
def X54:List MO:=[Qa (Qv 65) (Qd (Qn 8)),Qa (Qv 66) (Qe Qt Go.BinOp.add (Qn 65) (Qo (Qp (Qq (Qr Qu 1))))),Qa (Qv 8) (Qd (Qn 66))]
def Y26:MC:=.r0 X54
def Y27:MC:=.seq Y23 (.blk 4 (.loop (.seq (.seq Y24 (.cond (Qn 64) .skip (MC.exit 4))) (.seq (.blk 5 Y25) Y26))))
def X55:List MO:=[Qa (Qv 77) (Qg 1 (Qn 3)),Qa (Qv 78) (Qf 1 false (Qn 77)),Qa (Qv 79) (Qf 6 true (Qn 6)),Qa (Qv 80) (MOp.bslice 6 [(Qr Qu 0),(Qr Qu 0),(Qr Qu 0),(D.str (ByteArray.mk #[])),(D.sl []),(D.sl [])] 1 [(0,(Qn 79))]),Qa (Qv 81) (MOp.app 40 6 88 (Qn 78) (Qn 80)),Qa (Qv 82) (Qg 1 (Qn 3)),Qa none (Ql 1 (Qn 82) (Qn 81))]
def Y28:MC:=.r0 X55
def Y29:MC:=.seq Wni (.seq Y22 (.seq Y27 Y28))
def X56:List MO:=[Qa (Qv 21) (Qd (Qn 4)),Qa (Qv 22) (Qe Qt Go.BinOp.add (Qn 21) (Qo (Qp (Qq (Qr Qu 1))))),Qa (Qv 4) (Qd (Qn 22))]
def Y3a:MC:=.r0 X56
def Y3b:MC:=.seq (.seq Wng (.cond (Qn 20) .skip (MC.exit 0))) (.seq (.blk 1 (.seq Wnh Y29)) Y3a)
def X57:List MO:=[Qa (Qv 83) (Qf 2 true (Qn 3)),Qa none (Ql 2 (Qn 2) (Qn 83))]
def Y3c:MC:=.r0 X57
def Y3d:MC:=.seq Wne (.seq (.seq Wnf (.blk 0 (.loop Y3b))) (.seq Y3c .ret))
def X58:MC:=.seq Wnd Y3d
attribute [go_sem] Ys6 Ys7 Ys8 Ys9 Yta Ytb X5x X5y X5z X50 X51 X52 X53 X54 X55 X56 X57
theorem Wze:KK QP 48 f48 [1] X58 [(RV.cell 2 2 true)] 84:=by refine⟨func48,?_,?_,?_,?_⟩<;>kernel_rfl
theorem Wnj:Xaa QP 48=true:=by kernel_rfl
theorem Wnk (h:GI QP gp [(RV.cell 2 2 true)] res 84 X58 args):Xao QP gp 48 args res:=Wze.i Wnj h
def Xrw:List MO:=[Qa (Qv 2) (MOp.ibox (Qn 0)),Qa (Qv 4) (Qd (Qo (Qp A.nil))),Qa (Qv 5) (Qd (Qo (Qp (Qq (Qr Qu 0)))))]
def Wnl:MC:=.r0 Xrw
def Xrx:List MO:=[Qa (Qv 12) (Qf 2 true (Qn 2)),Qa (Qv 13) (Qd (Qn 1)),Qa (Qv 14) (Qh 74 [(Qn 12),(Qn 13)]),Qa (Qv 11) (Qd (Qn 14)),Qa (Qv 15) (Qi (Qn 11) 0),Qa (Qv 16) (Qi (Qn 11) 1),Qa (Qv 6) (MOp.alloc [(Qr Qu 0),(Qr Qu 0),(Qr Qu 0),(D.str (ByteArray.mk #[])),(D.sl []),(D.sl []),(Qr Qu 0)]),Qa none (Ql 7 (Qn 6) (Qn 15)),Qa (Qv 7) (Qd (Qn 16))]
def Wnm:MC:=.r0 Xrx
def Xry:List MO:=[Qa (Qv 8) (Qd (Qo (Qp A.nil)))]
def Wnn:MC:=.r0 Xry
def Xrz:List MO:=[Qa (Qv 17) (Qf 7 true (Qn 6)),Qa (Qv 18) (Qh 75 [(Qn 17)]),Qa (Qv 19) (Qk Qt (Qn 18)),Qa (Qv 20) (Qd (Qo (Qp (Qq (Qr Qu 0)))))]
def Wno:MC:=.r0 Xrz
def Xoe:List MO:=[Qa (Qv 21) (Qe Qt Go.BinOp.lss (Qn 20) (Qn 19))]
def Wnp:MC:=.r0 Xoe
def Xr0:List MO:=[Qa (Qv 22) (Qj 4 (Qn 18) (Qn 20)),Qa (Qv 23) (Qf 4 true (Qn 22)),Qa (Qv 10) (MOp.alloc [(Qr Qu 0),(Qr Qu 0),(D.str (ByteArray.mk #[])),(Qr Qu 0)]),Qa none (Ql 4 (Qn 10) (Qn 23))]
def Wnq:MC:=.r0 Xr0
def Xr1:List MO:=[Qa (Qv 24) (Qd (Qn 8)),Qa (Qv 25) (Qg 0 (Qn 10)),Qa (Qv 26) (Qf 3 true (Qn 25)),Qa (Qv 27) (MOp.bslice 3 [(Qr Qu 0),(Qr Qu 0),(D.str (ByteArray.mk #[]))] 1 [(0,(Qn 26))]),Qa (Qv 28) (MOp.app 28 3 32 (Qn 24) (Qn 27)),Qa (Qv 8) (Qd (Qn 28))]
def Wnr:MC:=.r0 Xr1
def Xl9:List MO:=[Qa (Qv 29) (Qe Qt Go.BinOp.add (Qn 20) (Qo (Qp (Qq (Qr Qu 1))))),Qa (Qv 20) (Qd (Qn 29))]
def Y3e:MC:=.r0 Xl9
def Y3f:MC:=.seq Wnp (.seq (.cond (Qn 21) .skip (MC.exit 0)) (.seq (.blk 1 (.seq Wnq Wnr)) Y3e))
def Xma:List MO:=[Qa (Qv 30) (Qd (Qn 8)),Qa (Qv 31) (Qd (Qn 7)),Qa (Qv 4) (Qd (Qn 30)),Qa (Qv 5) (Qd (Qn 31))]
def Y3g:MC:=.r0 Xma
def Y3h:MC:=.seq Wnn (.seq (.seq Wno (.blk 0 (.loop Y3f))) (.seq Y3g .ret))
def X59:MC:=.seq Wnl (.seq Wnm Y3h)
theorem Wzf:KK QP 49 f49 [2] X59 [(RV.t 4),(RV.t 5)] 32:=by refine⟨func49,?_,?_,?_,?_⟩<;>kernel_rfl
theorem Wns:Xaa QP 49=true:=by kernel_rfl
theorem Wnt (h:GI QP gp [(RV.t 4),(RV.t 5)] res 32 X59 args):Xao QP gp 49 args res:=Wzf.i Wns h
def Xd3:List MO:=[Qa (Qv 2) (MOp.ibox (Qn 0)),Qa (Qv 4) (Qd (Qo (Qp A.nil))),Qa (Qv 5) (Qd (Qo (Qp (Qq (Qr Qu 0)))))]
def Wnu:MC:=.r0 Xd3
def Xd4:List MO:=[Qa (Qv 12) (Qf 2 true (Qn 2)),Qa (Qv 13) (Qd (Qn 1)),Qa (Qv 14) (Qh 74 [(Qn 12),(Qn 13)]),Qa (Qv 11) (Qd (Qn 14)),Qa (Qv 15) (Qi (Qn 11) 0),Qa (Qv 16) (Qi (Qn 11) 1),Qa (Qv 6) (MOp.alloc [(Qr Qu 0),(Qr Qu 0),(Qr Qu 0),(D.str (ByteArray.mk #[])),(D.sl []),(D.sl []),(Qr Qu 0)]),Qa none (Ql 7 (Qn 6) (Qn 15)),Qa (Qv 7) (Qd (Qn 16))]
def Wnv:MC:=.r0 Xd4
def Xd5:List MO:=[Qa (Qv 17) (Qd (Qn 7)),Qa (Qv 18) (Qe Qt Go.BinOp.eql (Qn 17) (Qo (Qp (Qq (Qr Qu 0))))),Qa (Qv 19) (Qd (Qn 18)),Qb 19 true (Qv 20),Qa (Qv 20) (Qg 0 (Qn 6)),Qb 19 true (Qv 21),Qa (Qv 21) (Qg 0 (Qn 20)),Qb 19 true (Qv 22),Qa (Qv 22) (Qf 1 false (Qn 21)),Qb 19 true (Qv 23),Qa (Qv 23) (Qe Qt Go.BinOp.eql (Qn 22) (Qo (Qp (Qq (Qr Qu 1))))),Qa (Qv 24) (Qm (Qn 19) (Qn 23) (Qo (Qp (Qq (Qs false)))))]
def Wnw:MC:=.r0 Xd5
def Xd6:List MO:=[Qa (Qv 25) (Qg 0 (Qn 6)),Qa (Qv 26) (Qg 5 (Qn 25)),Qa (Qv 27) (Qf 1 false (Qn 26)),Qa (Qv 28) (Qh 71 [(Qn 27)]),Qa (Qv 29) (Qd (Qn 7)),Qa (Qv 4) (Qd (Qn 28)),Qa (Qv 5) (Qd (Qn 29))]
def Wnx:MC:=.r0 Xd6
def Xd7:List MO:=[Qa (Qv 8) (Qd (Qo (Qp A.nil)))]
def Wny:MC:=.r0 Xd7
def Xck:List MO:=[Qa (Qv 30) (Qf 7 true (Qn 6)),Qa (Qv 31) (Qh 75 [(Qn 30)]),Qa (Qv 32) (Qk Qt (Qn 31)),Qa (Qv 33) (Qd (Qo (Qp (Qq (Qr Qu 0)))))]
def Y3i:MC:=.r0 Xck
def Xb0:List MO:=[Qa (Qv 34) (Qe Qt Go.BinOp.lss (Qn 33) (Qn 32))]
def Y3j:MC:=.r0 Xb0
def Xcl:List MO:=[Qa (Qv 35) (Qj 4 (Qn 31) (Qn 33)),Qa (Qv 36) (Qf 4 true (Qn 35)),Qa (Qv 10) (MOp.alloc [(Qr Qu 0),(Qr Qu 0),(D.str (ByteArray.mk #[])),(Qr Qu 0)]),Qa none (Ql 4 (Qn 10) (Qn 36))]
def Y3k:MC:=.r0 Xcl
def Xcm:List MO:=[Qa (Qv 37) (Qd (Qn 8)),Qa (Qv 38) (Qg 3 (Qn 10)),Qa (Qv 39) (Qf 1 false (Qn 38)),Qa (Qv 40) (MOp.bslice 1 [(Qr Qu 0)] 1 [(0,(Qn 39))]),Qa (Qv 41) (MOp.app 3 1 8 (Qn 37) (Qn 40)),Qa (Qv 8) (Qd (Qn 41))]
def Y3l:MC:=.r0 Xcm
def Xcn:List MO:=[Qa (Qv 42) (Qe Qt Go.BinOp.add (Qn 33) (Qo (Qp (Qq (Qr Qu 1))))),Qa (Qv 33) (Qd (Qn 42))]
def Y3m:MC:=.r0 Xcn
def Y3n:MC:=.seq Y3j (.seq (.cond (Qn 34) .skip (MC.exit 0)) (.seq (.blk 1 (.seq Y3k Y3l)) Y3m))
def Xco:List MO:=[Qa (Qv 43) (Qd (Qn 8)),Qa (Qv 44) (Qd (Qn 7)),Qa (Qv 4) (Qd (Qn 43)),Qa (Qv 5) (Qd (Qn 44))]
def Y3o:MC:=.r0 Xco
def Y3p:MC:=.seq Wny (.seq (.seq Y3i (.blk 0 (.loop Y3n))) (.seq Y3o .ret))
def Y3q:MC:=.seq Wnv (.seq (.seq Wnw (.cond (Qn 24) (.seq Wnx .ret) .skip)) Y3p)
def Xt6:MC:=.seq Wnu Y3q
theorem Wnz:KK QP 50 f50 [2] Xt6 [(RV.t 4),(RV.t 5)] 45:=by refine⟨func50,?_,?_,?_,?_⟩<;>kernel_rfl
theorem Ytc:Xaa QP 50=true:=by kernel_rfl
theorem Wn0 (h:GI QP gp [(RV.t 4),(RV.t 5)] res 45 Xt6 args):Xao QP gp 50 args res:=Wnz.i Ytc h
theorem Y3r (h:GT QP gp [(RV.t 4),(RV.t 5)] pre R 45 Xt6 args):Tri QP gp 50 args pre R:=Wnz.t h
def Ytd:List MO:=[Qa (Qv 4) (MOp.ibox (Qn 1)),Qa (Qv 6) (Qd (Qo (Qp (Qq D.nilI))))]
def Wn1:MC:=.r0 Ytd
def Yte:List MO:=[Qa (Qv 10) (Qd (Qn 0)),Qa (Qv 11) (MOp.nck (Qn 10)),Qa (Qv 12) (Qg 2 (Qn 11)),Qa (Qv 13) (Qf 1 false (Qn 12)),Qa (Qv 14) (Qg 0 (Qn 4)),Qa (Qv 15) (Qg 1 (Qn 14)),Qa (Qv 16) (Qf 1 false (Qn 15)),Qa (Qv 17) (MOp.lkp true (Qp (Qq (Qr Qu 0))) false [Leaf.s] (Qn 13) (Qn 16)),Qa (Qv 9) (Qd (Qn 17)),Qa (Qv 18) (Qi (Qn 9) 0),Qa (Qv 19) (Qi (Qn 9) 1),Qa (Qv 7) (Qd (Qn 18)),Qa (Qv 8) (Qd (Qn 19))]
def Wn2:MC:=.reg true Yte
def Ytf:List MO:=[Qa (Qv 21) (Qd (Qn 2)),Qa (Qv 22) (Qe Qt Go.BinOp.gtr (Qn 21) (Qo (Qp (Qq (Qr Qu 24))))),Qa (Qv 20) (Qd (Qn 22))]
def Wn3:MC:=.r0 Ytf
def Ytg:List MO:=[Qa (Qv 23) (MOp.build [(Qr Qu 0)] [(0,(1,(Qo (Qp (Qq (Qr Qu 73))))))]),Qa (Qv 24) (MOp.mkI 106 (Qn 23)),Qa (Qv 6) (Qd (Qn 24))]
def Wn4:MC:=.r0 Ytg
def Yth:List MO:=[Qa (Qv 26) (Qf 7 true (Qn 4)),Qa (Qv 27) (Qh 79 [(Qn 26)]),Qa (Qv 28) (MOp.not (Qn 27)),Qa (Qv 25) (Qd (Qn 28))]
def Wn5:MC:=.r0 Yth
def Yti:List MO:=[Qa (Qv 29) (MOp.build [(Qr Qu 0)] [(0,(1,(Qo (Qp (Qq (Qr Qu 93))))))]),Qa (Qv 30) (MOp.mkI 106 (Qn 29)),Qa (Qv 6) (Qd (Qn 30))]
def Wn6:MC:=.r0 Yti
def X6a:List MO:=[Qa (Qv 32) (Qg 0 (Qn 4)),Qa (Qv 33) (Qg 5 (Qn 32)),Qa (Qv 34) (Qf 1 false (Qn 33)),Qa (Qv 35) (Qh 80 [(Qn 34)]),Qa (Qv 31) (Qd (Qn 35))]
def Y3s:MC:=.r0 X6a
def X6b:List MO:=[Qa (Qv 36) (MOp.build [(Qr Qu 0)] [(0,(1,(Qo (Qp (Qq (Qr Qu 101))))))]),Qa (Qv 37) (MOp.mkI 106 (Qn 36)),Qa (Qv 6) (Qd (Qn 37))]
def Y3t:MC:=.r0 X6b
def X6c:List MO:=[Qa (Qv 39) (Qg 0 (Qn 4)),Qa (Qv 40) (Qg 0 (Qn 39)),Qa (Qv 41) (Qf 1 false (Qn 40)),Qa (Qv 42) (Qe Qt Go.BinOp.eql (Qn 41) (Qo (Qp (Qq (Qr Qu 3))))),Qa (Qv 43) (Qd (Qn 42)),Qb 43 true (Qv 44),Qa (Qv 44) (Qd (Qn 8)),Qb 43 true (Qv 45),Qa (Qv 45) (MOp.not (Qn 44)),Qa (Qv 46) (Qm (Qn 43) (Qn 45) (Qo (Qp (Qq (Qs false))))),Qa (Qv 38) (Qd (Qn 46))]
def Y3u:MC:=.r0 X6c
def X6d:List MO:=[Qa (Qv 47) (MOp.build [(Qr Qu 0)] [(0,(1,(Qo (Qp (Qq (Qr Qu 100))))))]),Qa (Qv 48) (MOp.mkI 106 (Qn 47)),Qa (Qv 6) (Qd (Qn 48))]
def Y3v:MC:=.r0 X6d
def X6e:List MO:=[Qa (Qv 50) (Qg 0 (Qn 4)),Qa (Qv 51) (Qg 0 (Qn 50)),Qa (Qv 52) (Qf 1 false (Qn 51)),Qa (Qv 53) (Qe Qt Go.BinOp.neq (Qn 52) (Qo (Qp (Qq (Qr Qu 3))))),Qa (Qv 54) (Qd (Qn 53)),Qb 54 true (Qv 55),Qa (Qv 55) (Qd (Qn 0)),Qb 54 true (Qv 56),Qa (Qv 56) (MOp.nck (Qn 55)),Qb 54 true (Qv 57),Qa (Qv 57) (Qg 0 (Qn 56)),Qb 54 true (Qv 58),Qa (Qv 58) (Qg 1 (Qn 57)),Qb 54 true (Qv 59),Qa (Qv 59) (Qf 1 false (Qn 58)),Qb 54 true (Qv 60),Qa (Qv 60) (Qk Qt (Qn 59)),Qb 54 true (Qv 61),Qa (Qv 61) (Qe Qt Go.BinOp.eql (Qn 60) (Qo (Qp (Qq (Qr Qu 200))))),Qa (Qv 62) (Qm (Qn 54) (Qn 61) (Qo (Qp (Qq (Qs false))))),Qa (Qv 49) (Qd (Qn 62))]
def Y3w:MC:=.r0 X6e
def X6f:List MO:=[Qa (Qv 63) (MOp.build [(Qr Qu 0)] [(0,(1,(Qo (Qp (Qq (Qr Qu 71))))))]),Qa (Qv 64) (MOp.mkI 106 (Qn 63)),Qa (Qv 6) (Qd (Qn 64))]
def Y3x:MC:=.r0 X6f
def Y3y:MC:=.seq Y3u (.cond (Qn 38) (.seq Y3v .ret) (.seq Y3w (.cond (Qn 49) (.seq Y3x .ret) .skip)))
def Y3z:MC:=.cond (Qn 25) (.seq Wn6 .ret) (.seq Y3s (.cond (Qn 31) (.seq Y3t .ret) Y3y))
def Y30:MC:=.seq Wn3 (.cond (Qn 20) (.seq Wn4 .ret) (.seq Wn5 Y3z))
def X6g:List MO:=[Qa (Qv 6) (Qd (Qo (Qp (Qq D.nilI))))]
def Y31:MC:=.r0 X6g
def X6h:MC:=.seq Wn1 (.seq Wn2 (.seq (.blk 0 Y30) (.seq Y31 .ret)))
attribute [go_sem] Ytd Yte Ytf Ytg Yth Yti X6a X6b X6c X6d X6e X6f X6g
theorem Wzg:KK QP 57 f57 [4] X6h [(RV.t 6)] 65:=by refine⟨func57,?_,?_,?_,?_⟩<;>kernel_rfl
theorem X6i:Xaa QP 57=true:=by kernel_rfl
theorem Y32 (h:GT QP gp [(RV.t 6)] pre R 65 X6h args):Tri QP gp 57 args pre R:=Wzg.t h
def Ytj:List MO:=[Qa (Qv 4) (MOp.box (Qn 0)),Qa (Qv 5) (Qd (Qo (Qp (Qq D.nilI))))]
def Wn7:MC:=.r0 Ytj
def Ytk:List MO:=[Qa (Qv 9) (Qf 1 false (Qn 1)),Qa (Qv 10) (Qf 7 true (Qn 4)),Qa (Qv 11) (MOp.build [(Qr Qu 0),(D.str (ByteArray.mk #[])),(Qr Qu 0),(Qr Qu 0),(D.str (ByteArray.mk #[])),(D.sl []),(D.sl [])] [(0,(7,(Qn 10)))]),Qa (Qv 12) (Qf 1 false (Qn 2)),Qa (Qv 13) (Qe Qt Go.BinOp.add (Qn 12) (Qo (Qp (Qq (Qr Qu 1))))),Qa (Qv 14) (Qh 32 [(Qn 9),(Qn 11),(Qn 13)]),Qa (Qv 8) (Qd (Qn 14)),Qa (Qv 15) (Qi (Qn 8) 0),Qa (Qv 16) (Qi (Qn 8) 1),Qa (Qv 6) (Qd (Qn 15)),Qa (Qv 7) (Qd (Qn 16))]
def Wn8:MC:=.r0 Ytk
def Xr2:List MO:=[Qa (Qv 17) (MOp.cld 1 false (Qn 1)),Qa (Qv 18) (MOp.nck (Qn 17)),Qa (Qv 19) (Qg 0 (Qn 18)),Qa (Qv 20) (Qg 1 (Qn 19)),Qa (Qv 21) (MOp.cld 1 false (Qn 20)),Qa (Qv 22) (MOp.cld 1 false (Qn 3)),Qa (Qv 23) (MOp.cld 1 false (Qn 1)),Qa (Qv 24) (MOp.nck (Qn 23)),Qa (Qv 25) (Qg 0 (Qn 24)),Qa (Qv 26) (Qg 1 (Qn 25)),Qa (Qv 27) (MOp.cld 1 false (Qn 26)),Qa (Qv 28) (MOp.cld 1 false (Qn 3)),Qa (Qv 29) (Qj 6 (Qn 27) (Qn 28)),Qa (Qv 30) (Qg 5 (Qn 29)),Qa (Qv 31) (MOp.cld 1 false (Qn 30)),Qa (Qv 32) (Qd (Qn 6)),Qa (Qv 33) (MOp.bslice 1 [(Qr Qu 0)] 1 [(0,(Qn 32))]),Qa (Qv 34) (MOp.app 3 1 8 (Qn 31) (Qn 33)),Qa (Qv 35) (MOp.iac 6 (Qn 21) (Qn 22)),Qa (Qv 36) (Qg 5 (Qn 35)),Qa none (Ql 1 (Qn 36) (Qn 34))]
def Wn9:MC:=.reg true Xr2
def Ytl:List MO:=[Qa (Qv 37) (Qd (Qn 7)),Qa (Qv 5) (Qd (Qn 37))]
def Woa:MC:=.r0 Ytl
def Ytm:MC:=.seq Wn7 (.seq Wn8 (.seq Wn9 (.seq Woa .ret)))
attribute [go_sem] Ytj Ytk Ytl
theorem Wzh:KK QP 58 f58 [2000,5035] Ytm [(RV.t 5)] 38:=by refine⟨func58,?_,?_,?_,?_⟩<;>kernel_rfl
theorem Wob:Xaa QP 58=true:=by kernel_rfl
theorem Y33 (h:GT QP gp [(RV.t 5)] pre R 38 Ytm args):Tri QP gp 58 args pre R:=Wzh.t h
-- f59: trC none
-- f60: trC none
def Ytn:List MO:=[Qa (Qv 7) (Qf 7 true (Qn 1)),Qa (Qv 8) (MOp.bslO 7 [(Qr Qu 0),(D.str (ByteArray.mk #[])),(Qr Qu 0),(Qr Qu 0),(D.str (ByteArray.mk #[])),(D.sl []),(D.sl [])] 1 [(0,(Qn 7))]),Qa (Qv 3) (MOp.alloc [(D.sl [])]),Qa none (Ql 1 (Qn 3) (Qn 8))]
def Woc:MC:=.r0 Ytn
def Yto:List MO:=[Qa (Qv 9) (Qf 1 false (Qn 3)),Qa (Qv 10) (Qk Qt (Qn 9)),Qa (Qv 11) (Qe Qt Go.BinOp.gtr (Qn 10) (Qo (Qp (Qq (Qr Qu 0)))))]
def Wod:MC:=.r0 Yto
def Ytp:List MO:=[Qa (Qv 12) (Qf 1 false (Qn 3)),Qa (Qv 13) (Qf 1 false (Qn 3)),Qa (Qv 14) (Qk Qt (Qn 13)),Qa (Qv 15) (Qe Qt Go.BinOp.sub (Qn 14) (Qo (Qp (Qq (Qr Qu 1))))),Qa (Qv 16) (Qj 7 (Qn 12) (Qn 15)),Qa (Qv 17) (Qf 7 true (Qn 16)),Qa (Qv 4) (MOp.alloc [(Qr Qu 0),(D.str (ByteArray.mk #[])),(Qr Qu 0),(Qr Qu 0),(D.str (ByteArray.mk #[])),(D.sl []),(D.sl [])]),Qa none (Ql 7 (Qn 4) (Qn 17))]
def Woe:MC:=.r0 Ytp
def Xmb:List MO:=[Qa (Qv 18) (Qf 1 false (Qn 3)),Qa (Qv 19) (Qf 1 false (Qn 3)),Qa (Qv 20) (Qk Qt (Qn 19)),Qa (Qv 21) (Qe Qt Go.BinOp.sub (Qn 20) (Qo (Qp (Qq (Qr Qu 1))))),Qa (Qv 22) (MOp.slc 7 (Qn 18) none (Qv (Qn 21))),Qa none (Ql 1 (Qn 3) (Qn 22))]
def Wof:MC:=.r0 Xmb
def Xmc:List MO:=[Qa (Qv 23) (Qd (Qn 0)),Qa (Qv 24) (Qf 7 true (Qn 4)),Qa (Qv 25) (MOp.callv (Qn 23) [(Qn 24)]),Qa (Qv 26) (MOp.not (Qn 25))]
def Wog:MC:=.r0 Xmc
def X6j:List MO:=[Qa (Qv 27) (Qg 6 (Qn 4)),Qa (Qv 28) (Qf 1 false (Qn 27)),Qa (Qv 29) (Qh 62 [(Qn 28)])]
def Y34:MC:=.r0 X6j
def X6k:List MO:=[Qa (Qv 6) (MOp.alloc [(Qr Qu 0),(D.str (ByteArray.mk #[])),(Qr Qu 0),(Qr Qu 0),(D.str (ByteArray.mk #[])),(D.sl []),(D.sl [])]),Qa none (Ql 7 (Qn 6) (Qn 31))]
def Y35:MC:=.r0 X6k
def Xia:List MO:=[Qa (Qv 32) (MOp.cld 1 false (Qn 3)),Qa (Qv 33) (MOp.cld 7 true (Qn 6)),Qa (Qv 34) (Qk Qt (Qn 32)),Qa (Qv 35) (MOp.bslice 7 [(Qr Qu 0),(D.str (ByteArray.mk #[])),(Qr Qu 0),(Qr Qu 0),(D.str (ByteArray.mk #[])),(D.sl []),(D.sl [])] 1 [(0,(Qo (V.agg [(Qq (Qr Qu 0)),(Qq (D.str (ByteArray.mk #[]))),(Qq (Qr Qu 0)),(Qq (Qr Qu 0)),(Qq (D.str (ByteArray.mk #[]))),A.nil,A.nil])))]),Qa (Qv 36) (MOp.app 32 7 104 (Qn 32) (Qn 35)),Qa (Qv 37) (Qj 7 (Qn 36) (Qn 34)),Qa none (Ql 7 (Qn 37) (Qn 33)),Qa none (Ql 1 (Qn 3) (Qn 36))]
def Y36:MC:=.regp Xia
def Y37:MC:=.rf (Qn 29) [30,31] Y35 (.blk 3 Y36)
def Y38:MC:=.seq Wof (.seq (.seq Wog (.cond (Qn 26) (MC.exit 0) .skip)) (.seq Y34 (.blk 2 Y37)))
def Y39:MC:=.seq Woc (.seq .skip (.blk 0 (.loop (.seq (.seq Wod (.cond (Qn 11) .skip (MC.exit 0))) (.blk 1 (.seq Woe Y38))))))
def X6l:MC:=.scope Y39
attribute [go_sem] Ytn Yto Ytp X6j X6k
theorem Wzi:KK QP 61 f61 [2000,8] X6l [] 38:=by refine⟨func61,?_,?_,?_,?_⟩<;>kernel_rfl
theorem Woh:Xaa QP 61=true:=by kernel_rfl
theorem Y4a (h:GT QP gp [] pre R 38 X6l args):Tri QP gp 61 args pre R:=Wzi.t h
def Ytq:List MO:=[Qa (Qv 1) (MOp.ibox (Qn 0)),Qa (Qv 2) (Qd (Qo (Qp (Qq D.nilF))))]
def Woi:MC:=.r0 Ytq
def Ytr:List MO:=[Qa (Qv 3) (MOp.mkF (Go.Fn.func 87) [(Qn 1)]),Qa (Qv 2) (Qd (Qn 3))]
def Woj:MC:=.r0 Ytr
def Yts:MC:=.seq Woi (.seq Woj .ret)
attribute [go_sem] Ytq Ytr
theorem Wzj:KK QP 62 f62 [1] Yts [(RV.t 2)] 4:=by refine⟨func62,?_,?_,?_,?_⟩<;>kernel_rfl
theorem Wok:Xaa QP 62=true:=by kernel_rfl
theorem Wol (h:GI QP gp [(RV.t 2)] res 4 Yts args):Xao QP gp 62 args res:=Wzj.i Wok h
def Ytt:List MO:=[Qa (Qv 2) (MOp.ibox (Qn 0)),Qa (Qv 4) (Qd (Qo (Qp (Qq (Qs false)))))]
def Wom:MC:=.r0 Ytt
def Ytu:List MO:=[Qa (Qv 5) (Qd (Qn 1)),Qa (Qv 6) (Qe Qt Go.BinOp.geq (Qn 5) (Qo (Qp (Qq (Qr Qu 0))))),Qa (Qv 7) (Qd (Qn 6)),Qb 7 true (Qv 8),Qa (Qv 8) (Qd (Qn 1)),Qb 7 true (Qv 9),Qa (Qv 9) (Qg 1 (Qn 2)),Qb 7 true (Qv 10),Qa (Qv 10) (Qf 1 false (Qn 9)),Qb 7 true (Qv 11),Qa (Qv 11) (Qk Qt (Qn 10)),Qb 7 true (Qv 12),Qa (Qv 12) (Qe Qt Go.BinOp.lss (Qn 8) (Qn 11)),Qa (Qv 13) (Qm (Qn 7) (Qn 12) (Qo (Qp (Qq (Qs false))))),Qa (Qv 4) (Qd (Qn 13))]
def Won:MC:=.r0 Ytu
def Ytv:MC:=.seq Wom (.seq Won .ret)
attribute [go_sem] Ytt Ytu
theorem Wzk:KK QP 66 f66 [2] Ytv [(RV.t 4)] 14:=by refine⟨func66,?_,?_,?_,?_⟩<;>kernel_rfl
theorem Woo:Xaa QP 66=true:=by kernel_rfl
theorem Wop (h:GI QP gp [(RV.t 4)] res 14 Ytv args):Xao QP gp 66 args res:=Wzk.i Woo h
def Ytw:List MO:=[Qa (Qv 1) (MOp.ibox (Qn 0)),Qa (Qv 2) (Qd (Qo (Qp (Qq D.nilF))))]
def Woq:MC:=.r0 Ytw
def Ytx:List MO:=[Qa (Qv 3) (MOp.mkF (Go.Fn.func 89) [(Qn 1)]),Qa (Qv 2) (Qd (Qn 3))]
def Wor:MC:=.r0 Ytx
def Yty:MC:=.seq Woq (.seq Wor .ret)
attribute [go_sem] Ytw Ytx
theorem Wzl:KK QP 67 f67 [1] Yty [(RV.t 2)] 4:=by refine⟨func67,?_,?_,?_,?_⟩<;>kernel_rfl
theorem Wos:Xaa QP 67=true:=by kernel_rfl
theorem Wot (h:GI QP gp [(RV.t 2)] res 4 Yty args):Xao QP gp 67 args res:=Wzl.i Wos h
def Ytz:List MO:=[Qa (Qv 1) (MOp.ibox (Qn 0)),Qa (Qv 2) (Qd (Qo (Qp (Qq (Qs false)))))]
def Wou:MC:=.r0 Ytz
def Yt0:List MO:=[Qa (Qv 4) (MOp.build [D.nilF,D.nilF,D.nilF] [(0,(1,(Qo (Qp (Qq (D.fn (Go.Fn.func 90) [])))))),(1,(1,(Qo (Qp (Qq (D.fn (Go.Fn.func 91) [])))))),(2,(1,(Qo (Qp (Qq (D.fn (Go.Fn.func 92) []))))))]),Qa (Qv 3) (MOp.alloc [D.nilF,D.nilF,D.nilF]),Qa none (Ql 3 (Qn 3) (Qn 4))]
def Wov:MC:=.r0 Yt0
def Yt1:List MO:=[Qa (Qv 5) (Qg 0 (Qn 1)),Qa (Qv 6) (Qg 0 (Qn 5)),Qa (Qv 7) (Qf 1 false (Qn 6)),Qa (Qv 8) (Qe Qt Go.BinOp.geq (Qn 7) (Qo (Qp (Qq (Qr Qu 0))))),Qa (Qv 9) (Qd (Qn 8)),Qb 9 true (Qv 10),Qa (Qv 10) (Qg 0 (Qn 1)),Qb 9 true (Qv 11),Qa (Qv 11) (Qg 0 (Qn 10)),Qb 9 true (Qv 12),Qa (Qv 12) (Qf 1 false (Qn 11)),Qb 9 true (Qv 13),Qa (Qv 13) (Qe Qt Go.BinOp.lss (Qn 12) (Qo (Qp (Qq (Qr Qu 3))))),Qa (Qv 14) (Qm (Qn 9) (Qn 13) (Qo (Qp (Qq (Qs false))))),Qa (Qv 15) (Qd (Qn 14)),Qb 15 true (Qv 16),Qa (Qv 16) (Qg 0 (Qn 1)),Qb 15 true (Qv 17),Qa (Qv 17) (Qg 0 (Qn 16)),Qb 15 true (Qv 18),Qa (Qv 18) (Qf 1 false (Qn 17)),Qb 15 true (Qv 19),Qa (Qv 19) (MOp.iadA 3 1 (Qn 3) (Qn 18)),Qb 15 true (Qv 20),Qa (Qv 20) (Qf 1 false (Qn 19)),Qb 15 true (Qv 21),Qa (Qv 21) (Qf 7 true (Qn 1)),Qb 15 true (Qv 22),Qc (Qv 22) (MOp.callv (Qn 20) [(Qn 21)]),Qa (Qv 23) (Qm (Qn 15) (Qn 22) (Qo (Qp (Qq (Qs false))))),Qa (Qv 2) (Qd (Qn 23))]
def Wow:MC:=.reg true Yt1
def Yt2:MC:=.seq Wou (.seq Wov (.seq Wow .ret))
attribute [go_sem] Ytz Yt0 Yt1
theorem Wzm:KK QP 68 f68 [1] Yt2 [(RV.t 2)] 24:=by refine⟨func68,?_,?_,?_,?_⟩<;>kernel_rfl
theorem Wox:Xaa QP 68=true:=by kernel_rfl
theorem Woy (h:GI QP gp [(RV.t 2)] res 24 Yt2 args):Xao QP gp 68 args res:=Wzm.i Wox h
def Xex:List MO:=[Qa (Qv 2) (Qd (Qo (Qp A.nil)))]
def Woz:MC:=.r0 Xex
def Xey:List MO:=[Qa (Qv 3) (Qd (Qn 0)),Qa (Qv 4) (MOp.nilq NK.sl false (Qn 3))]
def Wo0:MC:=.r0 Xey
def Xgc:List MO:=[Qa (Qv 2) (Qd (Qo (Qp A.nil)))]
def Wo1:MC:=.r0 Xgc
def Xgw:List MO:=[Qa (Qv 5) (MOp.bslO 1 [(Qr Qu 0)] 0 []),Qa (Qv 6) (Qd (Qn 0)),Qa (Qv 7) (MOp.app 3 1 8 (Qn 5) (Qn 6)),Qa (Qv 2) (Qd (Qn 7))]
def Wo2:MC:=.r0 Xgw
def Xt7:MC:=.seq Woz (.seq (.seq Wo0 (.cond (Qn 4) (.seq Wo1 .ret) .skip)) (.seq Wo2 .ret))
theorem Wo3:KK QP 71 f71 [5] Xt7 [(RV.t 2)] 8:=by refine⟨func71,?_,?_,?_,?_⟩<;>kernel_rfl
theorem X6m:Xaa QP 71=true:=by kernel_rfl
theorem Wo4 (h:GI QP gp [(RV.t 2)] res 8 Xt7 args):Xao QP gp 71 args res:=Wo3.i X6m h
theorem Y4b (h:GT QP gp [(RV.t 2)] pre R 8 Xt7 args):Tri QP gp 71 args pre R:=Wo3.t h
def Yt3:List MO:=[Qa (Qv 1) (MOp.ibox (Qn 0)),Qa (Qv 2) (MOp.alloc [(Qr Qu 0),(Qr Qu 0),(D.str (ByteArray.mk #[]))])]
def Wo5:MC:=.r0 Yt3
def Yt4:List MO:=[Qa (Qv 3) (Qg 0 (Qn 1)),Qa (Qv 4) (Qf 1 false (Qn 3)),Qa (Qv 5) (Qg 1 (Qn 1)),Qa (Qv 6) (Qf 1 false (Qn 5)),Qa (Qv 7) (Qg 2 (Qn 1)),Qa (Qv 8) (Qf 1 false (Qn 7)),Qa (Qv 9) (Qh 96 [(Qn 8)]),Qa (Qv 10) (MOp.build [(Qr Qu 0),(Qr Qu 0),(D.str (ByteArray.mk #[]))] [(0,(1,(Qn 4))),(1,(1,(Qn 6))),(2,(1,(Qn 9)))]),Qa none (Ql 3 (Qn 2) (Qn 10))]
def Wo6:MC:=.reg true Yt4
def Yt5:MC:=.seq Wo5 (.seq Wo6 .ret)
attribute [go_sem] Yt3 Yt4
theorem Wzn:KK QP 73 f73 [1] Yt5 [(RV.cell 2 3 true)] 11:=by refine⟨func73,?_,?_,?_,?_⟩<;>kernel_rfl
theorem Wo7:Xaa QP 73=true:=by kernel_rfl
theorem Wo8 (h:GI QP gp [(RV.cell 2 3 true)] res 11 Yt5 args):Xao QP gp 73 args res:=Wzn.i Wo7 h
def Yt6:List MO:=[Qa (Qv 2) (MOp.ibox (Qn 0)),Qa (Qv 4) (MOp.alloc [(Qr Qu 0),(Qr Qu 0),(Qr Qu 0),(D.str (ByteArray.mk #[])),(D.sl []),(D.sl []),(Qr Qu 0)]),Qa (Qv 5) (Qd (Qo (Qp (Qq (Qr Qu 0)))))]
def Wo9:MC:=.r0 Yt6
def Yt7:List MO:=[Qa (Qv 6) (Qf 2 true (Qn 2)),Qa (Qv 7) (Qd (Qn 1)),Qa (Qv 8) (Qh 66 [(Qn 6),(Qn 7)]),Qa (Qv 9) (MOp.not (Qn 8))]
def Wpa:MC:=.r0 Yt7
def Yt8:List MO:=[Qa (Qv 10) (MOp.build [(Qr Qu 0),(Qr Qu 0),(Qr Qu 0),(D.str (ByteArray.mk #[])),(D.sl []),(D.sl []),(Qr Qu 0)] []),Qa none (Ql 7 (Qn 4) (Qn 10)),Qa (Qv 5) (Qd (Qo (Qp (Qq (Qr Qu 2)))))]
def Wpb:MC:=.r0 Yt8
def Yt9:List MO:=[Qa (Qv 11) (Qg 1 (Qn 2)),Qa (Qv 12) (Qf 1 false (Qn 11)),Qa (Qv 13) (Qd (Qn 1)),Qa (Qv 14) (Qj 6 (Qn 12) (Qn 13)),Qa (Qv 15) (Qf 6 true (Qn 14)),Qa (Qv 16) (Qg 1 (Qn 2)),Qa (Qv 17) (Qf 1 false (Qn 16)),Qa (Qv 18) (Qk Qt (Qn 17)),Qa (Qv 19) (MOp.build [(Qr Qu 0),(Qr Qu 0),(Qr Qu 0),(D.str (ByteArray.mk #[])),(D.sl []),(D.sl []),(Qr Qu 0)] [(0,(6,(Qn 15))),(6,(1,(Qn 18)))]),Qa none (Ql 7 (Qn 4) (Qn 19)),Qa (Qv 5) (Qd (Qo (Qp (Qq (Qr Qu 0)))))]
def Wpc:MC:=.reg true Yt9
def X6n:MC:=.seq Wo9 (.seq (.seq Wpa (.cond (Qn 9) (.seq Wpb .ret) .skip)) (.seq Wpc .ret))
attribute [go_sem] Yt6 Yt7 Yt8 Yt9
theorem Wzo:KK QP 74 f74 [2] X6n [(RV.cell 4 7 true),(RV.t 5)] 20:=by refine⟨func74,?_,?_,?_,?_⟩<;>kernel_rfl
theorem Wpd:Xaa QP 74=true:=by kernel_rfl
theorem Wpe (h:GI QP gp [(RV.cell 4 7 true),(RV.t 5)] res 20 X6n args):Xao QP gp 74 args res:=Wzo.i Wpd h
def Yua:List MO:=[Qa (Qv 1) (MOp.ibox (Qn 0)),Qa (Qv 2) (Qd (Qo (Qp A.nil)))]
def Wpf:MC:=.r0 Yua
def Yub:List MO:=[Qa (Qv 6) (Qg 0 (Qn 1)),Qa (Qv 7) (Qg 0 (Qn 6)),Qa (Qv 8) (Qf 1 false (Qn 7)),Qa (Qv 9) (Qe Qt Go.BinOp.neq (Qn 8) (Qo (Qp (Qq (Qr Qu 2))))),Qa (Qv 10) (Qd (Qn 9)),Qb 10 false (Qv 11),Qa (Qv 11) (Qf 7 true (Qn 1)),Qb 10 false (Qv 12),Qa (Qv 12) (Qh 97 [(Qn 11)]),Qb 10 false (Qv 13),Qa (Qv 13) (MOp.not (Qn 12)),Qa (Qv 14) (Qm (Qn 10) (Qo (Qp (Qq (Qs true)))) (Qn 13))]
def Wpg:MC:=.r0 Yub
def Yuc:List MO:=[Qa (Qv 2) (Qd (Qo (Qp A.nil)))]
def Wph:MC:=.r0 Yuc
def Yud:List MO:=[Qa (Qv 3) (Qd (Qo (Qp A.nil)))]
def Wpi:MC:=.r0 Yud
def Yue:List MO:=[Qa (Qv 15) (Qg 0 (Qn 1)),Qa (Qv 16) (Qg 4 (Qn 15)),Qa (Qv 17) (Qf 1 false (Qn 16)),Qa (Qv 18) (Qk Qt (Qn 17)),Qa (Qv 19) (Qd (Qo (Qp (Qq (Qr Qu 0)))))]
def Wpj:MC:=.r0 Yue
def X6o:List MO:=[Qa (Qv 20) (Qe Qt Go.BinOp.lss (Qn 19) (Qn 18))]
def Y4c:MC:=.r0 X6o
def X6p:List MO:=[Qa (Qv 21) (Qd (Qn 19)),Qa (Qv 22) (Qj 3 (Qn 17) (Qn 19)),Qa (Qv 23) (Qf 3 true (Qn 22)),Qa (Qv 5) (MOp.alloc [(Qr Qu 0),(Qr Qu 0),(D.str (ByteArray.mk #[]))]),Qa (Qv 4) (Qd (Qn 21)),Qa none (Ql 3 (Qn 5) (Qn 23))]
def Y4d:MC:=.r0 X6p
def X6q:List MO:=[Qa (Qv 24) (Qd (Qn 3)),Qa (Qv 25) (Qf 3 true (Qn 5)),Qa (Qv 26) (Qg 0 (Qn 1)),Qa (Qv 27) (Qg 5 (Qn 26)),Qa (Qv 28) (Qf 1 false (Qn 27)),Qa (Qv 29) (Qd (Qn 4)),Qa (Qv 30) (Qj 1 (Qn 28) (Qn 29)),Qa (Qv 31) (Qf 1 false (Qn 30)),Qa (Qv 32) (MOp.build [(Qr Qu 0),(Qr Qu 0),(D.str (ByteArray.mk #[])),(Qr Qu 0)] [(0,(3,(Qn 25))),(3,(1,(Qn 31)))]),Qa (Qv 33) (MOp.bslice 4 [(Qr Qu 0),(Qr Qu 0),(D.str (ByteArray.mk #[])),(Qr Qu 0)] 1 [(0,(Qn 32))]),Qa (Qv 34) (MOp.app 142 4 40 (Qn 24) (Qn 33)),Qa (Qv 3) (Qd (Qn 34))]
def Y4e:MC:=.reg true X6q
def X6r:List MO:=[Qa (Qv 35) (Qe Qt Go.BinOp.add (Qn 19) (Qo (Qp (Qq (Qr Qu 1))))),Qa (Qv 19) (Qd (Qn 35))]
def Y4f:MC:=.r0 X6r
def Y4g:MC:=.seq Y4c (.seq (.cond (Qn 20) .skip (MC.exit 0)) (.seq (.blk 1 (.seq Y4d Y4e)) Y4f))
def X6s:List MO:=[Qa (Qv 36) (Qd (Qn 3)),Qa (Qv 37) (Qh 98 [(Qn 36),(Qo (Qp (Qq (D.fn (Go.Fn.func 99) []))))])]
def Y4h:MC:=.r0 X6s
def X6t:List MO:=[Qa (Qv 38) (Qd (Qn 3)),Qa (Qv 2) (Qd (Qn 38))]
def Y4i:MC:=.r0 X6t
def Y4j:MC:=.seq (.seq Wpj (.blk 0 (.loop Y4g))) (.seq Y4h (.seq Y4i .ret))
def Y4k:MC:=.seq (.seq Wpg (.cond (Qn 14) (.seq Wph .ret) .skip)) (.seq Wpi Y4j)
def X6u:MC:=.seq Wpf Y4k
attribute [go_sem] Yua Yub Yuc Yud Yue X6o X6p X6q X6r X6s X6t
theorem Wzp:KK QP 75 f75 [1] X6u [(RV.t 2)] 39:=by refine⟨func75,?_,?_,?_,?_⟩<;>kernel_rfl
theorem Wpk:Xaa QP 75=true:=by kernel_rfl
theorem Wpl (h:GI QP gp [(RV.t 2)] res 39 X6u args):Xao QP gp 75 args res:=Wzp.i Wpk h
def Yuf:List MO:=[Qa (Qv 1) (MOp.ibox (Qn 0)),Qa (Qv 2) (Qd (Qo (Qp (Qq (Qs false)))))]
def Wpm:MC:=.r0 Yuf
def Yug:List MO:=[Qa (Qv 4) (MOp.build [D.nilF,D.nilF,D.nilF,D.nilF] [(0,(1,(Qo (Qp (Qq (D.fn (Go.Fn.func 106) [])))))),(1,(1,(Qo (Qp (Qq (D.fn (Go.Fn.func 107) [])))))),(2,(1,(Qo (Qp (Qq (D.fn (Go.Fn.func 108) [])))))),(3,(1,(Qo (Qp (Qq (D.fn (Go.Fn.func 109) []))))))]),Qa (Qv 3) (MOp.alloc [D.nilF,D.nilF,D.nilF,D.nilF]),Qa none (Ql 4 (Qn 3) (Qn 4))]
def Wpn:MC:=.r0 Yug
def Yuh:List MO:=[Qa (Qv 5) (Qg 0 (Qn 1)),Qa (Qv 6) (Qg 0 (Qn 5)),Qa (Qv 7) (Qf 1 false (Qn 6)),Qa (Qv 8) (Qe Qt Go.BinOp.geq (Qn 7) (Qo (Qp (Qq (Qr Qu 0))))),Qa (Qv 9) (Qd (Qn 8)),Qb 9 true (Qv 10),Qa (Qv 10) (Qg 0 (Qn 1)),Qb 9 true (Qv 11),Qa (Qv 11) (Qg 0 (Qn 10)),Qb 9 true (Qv 12),Qa (Qv 12) (Qf 1 false (Qn 11)),Qb 9 true (Qv 13),Qa (Qv 13) (Qe Qt Go.BinOp.lss (Qn 12) (Qo (Qp (Qq (Qr Qu 4))))),Qa (Qv 14) (Qm (Qn 9) (Qn 13) (Qo (Qp (Qq (Qs false))))),Qa (Qv 15) (Qd (Qn 14)),Qb 15 true (Qv 16),Qa (Qv 16) (Qg 0 (Qn 1)),Qb 15 true (Qv 17),Qa (Qv 17) (Qg 0 (Qn 16)),Qb 15 true (Qv 18),Qa (Qv 18) (Qf 1 false (Qn 17)),Qb 15 true (Qv 19),Qa (Qv 19) (MOp.iadA 4 1 (Qn 3) (Qn 18)),Qb 15 true (Qv 20),Qa (Qv 20) (Qf 1 false (Qn 19)),Qb 15 true (Qv 21),Qa (Qv 21) (Qf 7 true (Qn 1)),Qb 15 true (Qv 22),Qc (Qv 22) (MOp.callv (Qn 20) [(Qn 21)]),Qa (Qv 23) (Qm (Qn 15) (Qn 22) (Qo (Qp (Qq (Qs false))))),Qa (Qv 24) (Qd (Qn 23)),Qb 24 true (Qv 25),Qa (Qv 25) (Qg 0 (Qn 1)),Qb 24 true (Qv 26),Qa (Qv 26) (Qg 1 (Qn 25)),Qb 24 true (Qv 27),Qa (Qv 27) (Qf 1 false (Qn 26)),Qb 24 true (Qv 28),Qa (Qv 28) (Qe Leaf.s Go.BinOp.eql (Qn 27) (Qo (Qp (Qq (D.str (ByteArray.mk #[])))))),Qb 24 true (Qv 29),Qa (Qv 29) (Qd (Qn 28)),Qb 29 false (Qv 30),Qa (Qv 30) (Qg 0 (Qn 1)),Qb 29 false (Qv 31),Qa (Qv 31) (Qg 1 (Qn 30)),Qb 29 false (Qv 32),Qa (Qv 32) (Qf 1 false (Qn 31)),Qb 29 false (Qv 33),Qc (Qv 33) (Qh 110 [(Qn 32)]),Qb 24 true (Qv 34),Qa (Qv 34) (Qm (Qn 29) (Qo (Qp (Qq (Qs true)))) (Qn 33)),Qa (Qv 35) (Qm (Qn 24) (Qn 34) (Qo (Qp (Qq (Qs false))))),Qa (Qv 2) (Qd (Qn 35))]
def Wpo:MC:=.reg true Yuh
def Yui:MC:=.seq Wpm (.seq Wpn (.seq Wpo .ret))
attribute [go_sem] Yuf Yug Yuh
theorem Wzq:KK QP 79 f79 [1] Yui [(RV.t 2)] 36:=by refine⟨func79,?_,?_,?_,?_⟩<;>kernel_rfl
theorem Wpp:Xaa QP 79=true:=by kernel_rfl
theorem Wpq (h:GI QP gp [(RV.t 2)] res 36 Yui args):Xao QP gp 79 args res:=Wzq.i Wpp h
def Yuj:List MO:=[Qa (Qv 2) (Qd (Qo (Qp (Qq (Qs false)))))]
def Wpr:MC:=.r0 Yuj
def Yuk:List MO:=[Qa (Qv 3) (MOp.alloc [(Qr Qu 0)]),Qa none (Ql 1 (Qn 3) (Qo (Qp (Qq (Qr Qu 0)))))]
def Wps:MC:=.r0 Yuk
def Yul:List MO:=[Qa (Qv 4) (Qd (Qn 0)),Qa (Qv 5) (Qh 111 [(Qn 4)])]
def Wpt:MC:=.r0 Yul
def Yum:List MO:=[Qa (Qv 7) (Qf 1 false (Qn 3)),Qa (Qv 8) (Qe Qt Go.BinOp.add (Qn 7) (Qo (Qp (Qq (Qr Qu 1))))),Qa none (Ql 1 (Qn 3) (Qn 8))]
def Wpu:MC:=.r0 Yum
def Wpv:MC:=.rf (Qn 5) [6] .skip (.blk 1 Wpu)
def Yun:List MO:=[Qa (Qv 9) (Qf 1 false (Qn 3)),Qa (Qv 10) (Qd (Qn 0)),Qa (Qv 11) (Qk Qt (Qn 10)),Qa (Qv 12) (Qe Qt Go.BinOp.lss (Qn 9) (Qn 11)),Qa (Qv 2) (Qd (Qn 12))]
def Wpw:MC:=.r0 Yun
def Y4l:MC:=.seq Wps (.seq (.seq Wpt (.blk 0 Wpv)) (.seq Wpw .ret))
def X6v:MC:=.seq Wpr Y4l
attribute [go_sem] Yuj Yuk Yul Yum Yun
theorem Wzr:KK QP 80 f80 [] X6v [(RV.t 2)] 13:=by refine⟨func80,?_,?_,?_,?_⟩<;>kernel_rfl
theorem Wpx:Xaa QP 80=true:=by kernel_rfl
theorem Wpy (h:GI QP gp [(RV.t 2)] res 13 X6v args):Xao QP gp 80 args res:=Wzr.i Wpx h
def Yuo:List MO:=[Qa (Qv 4) (Qf 1 false (Qn 1)),Qa (Qv 5) (Qk Qt (Qn 4)),Qa (Qv 6) (Qe Qt Go.BinOp.sub (Qn 5) (Qo (Qp (Qq (Qr Qu 1))))),Qa (Qv 3) (Qd (Qn 6))]
def Wpz:MC:=.r0 Yuo
def Yup:List MO:=[Qa (Qv 7) (Qd (Qn 3)),Qa (Qv 8) (Qe Qt Go.BinOp.geq (Qn 7) (Qo (Qp (Qq (Qr Qu 0)))))]
def Wp0:MC:=.r0 Yup
def Yuq:List MO:=[Qa (Qv 11) (Qd (Qn 0)),Qa (Qv 12) (Qd (Qn 3)),Qa (Qv 13) (Qf 1 false (Qn 1)),Qa (Qv 14) (Qd (Qn 3)),Qa (Qv 15) (Qj 7 (Qn 13) (Qn 14)),Qa (Qv 16) (Qf 7 true (Qn 15)),Qa (Qv 17) (MOp.callv (Qn 11) [(Qn 12),(Qn 16)]),Qa (Qv 18) (MOp.not (Qn 17))]
def Wp1:MC:=.r0 Yuq
def X6w:List MO:=[Qa (Qv 9) (Qd (Qn 3)),Qa (Qv 10) (Qe Qt Go.BinOp.sub (Qn 9) (Qo (Qp (Qq (Qr Qu 1))))),Qa (Qv 3) (Qd (Qn 10))]
def Y4m:MC:=.r0 X6w
def X6x:MC:=.seq Wpz (.blk 0 (.loop (.seq (.seq Wp0 (.cond (Qn 8) .skip (MC.exit 0))) (.seq (.blk 1 (.seq Wp1 (.cond (Qn 18) .ret .skip))) Y4m))))
attribute [go_sem] Yuo Yup Yuq X6w
theorem Wzs:KK QP 87 f87 [] X6x [] 19:=by refine⟨func87,?_,?_,?_,?_⟩<;>kernel_rfl
theorem Wp2:Xaa QP 87=true:=by kernel_rfl
theorem Y4n (h:GT QP gp [] pre R 19 X6x args):Tri QP gp 87 args pre R:=Wzs.t h
def Yur:List MO:=[Qa (Qv 5) (Qg 1 (Qn 1)),Qa (Qv 6) (Qf 1 false (Qn 5)),Qa (Qv 7) (Qk Qt (Qn 6)),Qa (Qv 8) (Qd (Qo (Qp (Qq (Qr Qu 0)))))]
def Wp3:MC:=.r0 Yur
def Yus:List MO:=[Qa (Qv 9) (Qe Qt Go.BinOp.lss (Qn 8) (Qn 7))]
def Wp4:MC:=.r0 Yus
def Yut:List MO:=[Qa (Qv 10) (Qd (Qn 8)),Qa (Qv 11) (Qj 6 (Qn 6) (Qn 8)),Qa (Qv 12) (Qf 6 true (Qn 11)),Qa (Qv 4) (MOp.alloc [(Qr Qu 0),(Qr Qu 0),(Qr Qu 0),(D.str (ByteArray.mk #[])),(D.sl []),(D.sl [])]),Qa (Qv 3) (Qd (Qn 10)),Qa none (Ql 6 (Qn 4) (Qn 12))]
def Wp5:MC:=.r0 Yut
def Yuu:List MO:=[Qa (Qv 13) (Qd (Qn 0)),Qa (Qv 14) (Qd (Qn 3)),Qa (Qv 15) (Qf 6 true (Qn 4)),Qa (Qv 16) (Qg 1 (Qn 1)),Qa (Qv 17) (Qf 1 false (Qn 16)),Qa (Qv 18) (Qk Qt (Qn 17)),Qa (Qv 19) (MOp.build [(Qr Qu 0),(Qr Qu 0),(Qr Qu 0),(D.str (ByteArray.mk #[])),(D.sl []),(D.sl []),(Qr Qu 0)] [(0,(6,(Qn 15))),(6,(1,(Qn 18)))]),Qa (Qv 20) (MOp.callv (Qn 13) [(Qn 14),(Qn 19)]),Qa (Qv 21) (MOp.not (Qn 20))]
def Wp6:MC:=.r0 Yuu
def X6y:List MO:=[Qa (Qv 22) (Qe Qt Go.BinOp.add (Qn 8) (Qo (Qp (Qq (Qr Qu 1))))),Qa (Qv 8) (Qd (Qn 22))]
def Y4o:MC:=.r0 X6y
def Y4p:MC:=.seq Wp4 (.seq (.cond (Qn 9) .skip (MC.exit 0)) (.seq (.blk 1 (.seq Wp5 (.seq Wp6 (.cond (Qn 21) (MC.exit 0) .skip)))) Y4o))
def X6z:MC:=.scope (.seq .skip (.seq Wp3 (.blk 0 (.loop Y4p))))
attribute [go_sem] Yur Yus Yut Yuu X6y
theorem Wzt:KK QP 89 f89 [] X6z [] 23:=by refine⟨func89,?_,?_,?_,?_⟩<;>kernel_rfl
theorem Wp7:Xaa QP 89=true:=by kernel_rfl
theorem Y4q (h:GT QP gp [] pre R 23 X6z args):Tri QP gp 89 args pre R:=Wzt.t h
def Yuv:List MO:=[Qa (Qv 1) (MOp.ibox (Qn 0)),Qa (Qv 2) (Qd (Qo (Qp (Qq (Qs false)))))]
def Wp8:MC:=.r0 Yuv
def Yuw:List MO:=[Qa (Qv 3) (Qg 0 (Qn 1)),Qa (Qv 4) (Qg 1 (Qn 3)),Qa (Qv 5) (Qf 3 true (Qn 4)),Qa (Qv 6) (Qh 18 [(Qn 5)]),Qa (Qv 7) (Qg 0 (Qn 1)),Qa (Qv 8) (Qg 4 (Qn 7)),Qa (Qv 9) (Qf 1 false (Qn 8)),Qa (Qv 10) (Qk Qt (Qn 9)),Qa (Qv 11) (Qe Qt Go.BinOp.eql (Qn 10) (Qo (Qp (Qq (Qr Qu 0))))),Qa (Qv 12) (Qg 0 (Qn 1)),Qa (Qv 13) (Qg 5 (Qn 12)),Qa (Qv 14) (Qf 1 false (Qn 13)),Qa (Qv 15) (Qk Qt (Qn 14)),Qa (Qv 16) (Qe Qt Go.BinOp.eql (Qn 15) (Qo (Qp (Qq (Qr Qu 0))))),Qa (Qv 17) (MOp.bslice 1 [(Qs false)] 3 [(0,(Qn 6)),(1,(Qn 11)),(2,(Qn 16))]),Qc (Qv 18) (Qh 114 [(Qn 17)]),Qa (Qv 2) (Qd (Qn 18))]
def Wp9:MC:=.reg true Yuw
def Yux:MC:=.seq Wp8 (.seq Wp9 .ret)
attribute [go_sem] Yuv Yuw
theorem Wzu:KK QP 90 f90 [1] Yux [(RV.t 2)] 19:=by refine⟨func90,?_,?_,?_,?_⟩<;>kernel_rfl
theorem Wqa:Xaa QP 90=true:=by kernel_rfl
theorem Wqb (h:GI QP gp [(RV.t 2)] res 19 Yux args):Xao QP gp 90 args res:=Wzu.i Wqa h
def Yuy:List MO:=[Qa (Qv 1) (MOp.ibox (Qn 0)),Qa (Qv 2) (Qd (Qo (Qp (Qq (Qs false)))))]
def Wqc:MC:=.r0 Yuy
def Yuz:List MO:=[Qa (Qv 3) (Qg 0 (Qn 1)),Qa (Qv 4) (Qg 1 (Qn 3)),Qa (Qv 5) (Qf 3 true (Qn 4)),Qa (Qv 6) (MOp.build [(Qr Qu 0),(Qr Qu 0),(D.str (ByteArray.mk #[]))] []),Qa (Qv 7) (MOp.eqs false [Qt,Qt,Leaf.s] (Qn 5) (Qn 6)),Qa (Qv 8) (Qg 0 (Qn 1)),Qa (Qv 9) (Qg 4 (Qn 8)),Qa (Qv 10) (Qf 1 false (Qn 9)),Qa (Qv 11) (Qk Qt (Qn 10)),Qa (Qv 12) (Qe Qt Go.BinOp.eql (Qn 11) (Qo (Qp (Qq (Qr Qu 0))))),Qa (Qv 13) (Qf 7 true (Qn 1)),Qa (Qv 14) (Qh 115 [(Qn 13)]),Qa (Qv 15) (MOp.bslice 1 [(Qs false)] 3 [(0,(Qn 7)),(1,(Qn 12)),(2,(Qn 14))]),Qc (Qv 16) (Qh 114 [(Qn 15)]),Qa (Qv 2) (Qd (Qn 16))]
def Wqd:MC:=.reg true Yuz
def Yu0:MC:=.seq Wqc (.seq Wqd .ret)
attribute [go_sem] Yuy Yuz
theorem Wzv:KK QP 91 f91 [1] Yu0 [(RV.t 2)] 17:=by refine⟨func91,?_,?_,?_,?_⟩<;>kernel_rfl
theorem Wqe:Xaa QP 91=true:=by kernel_rfl
theorem Wqf (h:GI QP gp [(RV.t 2)] res 17 Yu0 args):Xao QP gp 91 args res:=Wzv.i Wqe h
def Yu1:List MO:=[Qa (Qv 1) (MOp.ibox (Qn 0)),Qa (Qv 2) (Qd (Qo (Qp (Qq (Qs false)))))]
def Wqg:MC:=.r0 Yu1
def Yu2:List MO:=[Qa (Qv 3) (Qg 0 (Qn 1)),Qa (Qv 4) (Qg 1 (Qn 3)),Qa (Qv 5) (Qf 3 true (Qn 4)),Qa (Qv 6) (MOp.build [(Qr Qu 0),(Qr Qu 0),(D.str (ByteArray.mk #[]))] []),Qa (Qv 7) (MOp.eqs false [Qt,Qt,Leaf.s] (Qn 5) (Qn 6)),Qa (Qv 8) (Qf 7 true (Qn 1)),Qa (Qv 9) (Qh 97 [(Qn 8)]),Qa (Qv 10) (Qf 7 true (Qn 1)),Qa (Qv 11) (Qh 116 [(Qn 10)]),Qa (Qv 12) (Qf 7 true (Qn 1)),Qa (Qv 13) (Qh 115 [(Qn 12)]),Qa (Qv 14) (MOp.bslice 1 [(Qs false)] 4 [(0,(Qn 7)),(1,(Qn 9)),(2,(Qn 11)),(3,(Qn 13))]),Qc (Qv 15) (Qh 114 [(Qn 14)]),Qa (Qv 2) (Qd (Qn 15))]
def Wqh:MC:=.reg true Yu2
def Yu3:MC:=.seq Wqg (.seq Wqh .ret)
attribute [go_sem] Yu1 Yu2
theorem Wzw:KK QP 92 f92 [1] Yu3 [(RV.t 2)] 16:=by refine⟨func92,?_,?_,?_,?_⟩<;>kernel_rfl
theorem Wqi:Xaa QP 92=true:=by kernel_rfl
theorem Wqj (h:GI QP gp [(RV.t 2)] res 16 Yu3 args):Xao QP gp 92 args res:=Wzw.i Wqi h
def Yu4:List MO:=[Qa (Qv 2) (Qd (Qo (Qp (Qq (D.str (ByteArray.mk #[]))))))]
def Wqk:MC:=.r0 Yu4
def Yu5:List MO:=[Qa (Qv 3) (Qd (Qn 0)),Qa (Qv 4) (Qd (Qn 0)),Qa (Qv 5) (Qk Leaf.s (Qn 4)),Qa (Qv 6) (MOp.min (Qn 5) (Qo (Qp (Qq (Qr Qu 100))))),Qa (Qv 7) (MOp.slcS (Qn 3) none (Qv (Qn 6))),Qa (Qv 2) (Qd (Qn 7))]
def Wql:MC:=.r0 Yu5
def Yu6:MC:=.seq Wqk (.seq Wql .ret)
attribute [go_sem] Yu4 Yu5
theorem Wzx:KK QP 96 f96 [] Yu6 [(RV.t 2)] 8:=by refine⟨func96,?_,?_,?_,?_⟩<;>kernel_rfl
theorem Wqm:Xaa QP 96=true:=by kernel_rfl
theorem Wqn (h:GI QP gp [(RV.t 2)] res 8 Yu6 args):Xao QP gp 96 args res:=Wzx.i Wqm h
def Yu7:List MO:=[Qa (Qv 1) (MOp.ibox (Qn 0)),Qa (Qv 2) (Qd (Qo (Qp (Qq (Qs false)))))]
def Wqo:MC:=.r0 Yu7
def Yu8:List MO:=[Qa (Qv 3) (Qg 0 (Qn 1)),Qa (Qv 4) (Qg 4 (Qn 3)),Qa (Qv 5) (Qf 1 false (Qn 4)),Qa (Qv 6) (Qk Qt (Qn 5)),Qa (Qv 7) (Qg 0 (Qn 1)),Qa (Qv 8) (Qg 5 (Qn 7)),Qa (Qv 9) (Qf 1 false (Qn 8)),Qa (Qv 10) (Qk Qt (Qn 9)),Qa (Qv 11) (Qe Qt Go.BinOp.eql (Qn 6) (Qn 10)),Qa (Qv 2) (Qd (Qn 11))]
def Wqp:MC:=.r0 Yu8
def Yu9:MC:=.seq Wqo (.seq Wqp .ret)
attribute [go_sem] Yu7 Yu8
theorem Wzy:KK QP 97 f97 [1] Yu9 [(RV.t 2)] 12:=by refine⟨func97,?_,?_,?_,?_⟩<;>kernel_rfl
theorem Wqq:Xaa QP 97=true:=by kernel_rfl
theorem Wqr (h:GI QP gp [(RV.t 2)] res 12 Yu9 args):Xao QP gp 97 args res:=Wzy.i Wqq h
def Yva:List MO:=[Qa (Qv 4) (Qd (Qn 0)),Qa (Qv 5) (Qd (Qn 0)),Qa (Qv 6) (Qk Qt (Qn 5)),Qa (Qv 7) (Qd (Qn 1)),Qa (Qv 8) (Qh 119 [(Qn 4),(Qn 6),(Qn 7)])]
def Yvb:MC:=.r0 Yva
attribute [go_sem] Yva
theorem Wzz:KK QP 98 f98 [] Yvb [] 9:=by refine⟨func98,?_,?_,?_,?_⟩<;>kernel_rfl
theorem Wqs:Xaa QP 98=true:=by kernel_rfl
theorem Y4r (h:GT QP gp [] pre R 9 Yvb args):Tri QP gp 98 args pre R:=Wzz.t h
def Yvc:List MO:=[Qa (Qv 2) (MOp.ibox (Qn 0)),Qa (Qv 3) (MOp.ibox (Qn 1)),Qa (Qv 4) (Qd (Qo (Qp (Qq (Qr Qu 0)))))]
def Wqt:MC:=.r0 Yvc
def Yvd:List MO:=[Qa (Qv 5) (Qg 0 (Qn 2)),Qa (Qv 6) (Qf 3 true (Qn 5)),Qa (Qv 7) (Qg 0 (Qn 3)),Qa (Qv 8) (Qf 3 true (Qn 7)),Qa (Qv 9) (Qh 100 [(Qn 6),(Qn 8)]),Qa (Qv 4) (Qd (Qn 9))]
def Wqu:MC:=.r0 Yvd
def Yve:MC:=.seq Wqt (.seq Wqu .ret)
attribute [go_sem] Yvc Yvd
theorem Wz0:KK QP 99 f99 [2,3] Yve [(RV.t 4)] 10:=by refine⟨func99,?_,?_,?_,?_⟩<;>kernel_rfl
theorem Wqv:Xaa QP 99=true:=by kernel_rfl
theorem Wqw (h:GI QP gp [(RV.t 4)] res 10 Yve args):Xao QP gp 99 args res:=Wz0.i Wqv h
def X60:List MO:=[Qa (Qv 2) (MOp.ibox (Qn 0)),Qa (Qv 3) (MOp.ibox (Qn 1)),Qa (Qv 4) (Qd (Qo (Qp (Qq (Qr Qu 0)))))]
def Y4s:MC:=.r0 X60
def X61:List MO:=[Qa (Qv 5) (Qf 3 true (Qn 2)),Qa (Qv 6) (Qf 3 true (Qn 3)),Qa (Qv 7) (MOp.eqs false [Qt,Qt,Leaf.s] (Qn 5) (Qn 6))]
def Y4t:MC:=.r0 X61
def X62:List MO:=[Qa (Qv 4) (Qd (Qo (Qp (Qq (Qr Qu 0)))))]
def Y4u:MC:=.r0 X62
def X63:List MO:=[Qa (Qv 8) (Qg 0 (Qn 2)),Qa (Qv 9) (Qf 1 false (Qn 8)),Qa (Qv 10) (Qg 0 (Qn 3)),Qa (Qv 11) (Qf 1 false (Qn 10)),Qa (Qv 12) (Qh 121 [(Qn 9),(Qn 11)]),Qa (Qv 13) (Qg 1 (Qn 2)),Qa (Qv 14) (Qf 1 false (Qn 13)),Qa (Qv 15) (Qg 1 (Qn 3)),Qa (Qv 16) (Qf 1 false (Qn 15)),Qa (Qv 17) (Qh 121 [(Qn 14),(Qn 16)]),Qa (Qv 18) (Qg 2 (Qn 2)),Qa (Qv 19) (Qf 1 false (Qn 18)),Qa (Qv 20) (Qg 2 (Qn 3)),Qa (Qv 21) (Qf 1 false (Qn 20)),Qc (Qv 22) (Qh 122 [(Qn 19),(Qn 21)]),Qa (Qv 23) (MOp.bslice 1 [(Qr Qu 0)] 3 [(0,(Qn 12)),(1,(Qn 17)),(2,(Qn 22))]),Qc (Qv 24) (Qh 120 [(Qn 23)]),Qa (Qv 4) (Qd (Qn 24))]
def Y4v:MC:=.reg true X63
def Xv9:MC:=.seq Y4s (.seq (.seq Y4t (.cond (Qn 7) (.seq Y4u .ret) .skip)) (.seq Y4v .ret))
attribute [go_sem] X60 X61 X62 X63
theorem Wqx:KK QP 100 f100 [2,3] Xv9 [(RV.t 4)] 25:=by refine⟨func100,?_,?_,?_,?_⟩<;>kernel_rfl
theorem Y4w:Xaa QP 100=true:=by kernel_rfl
theorem Y4x (h:GI QP gp [(RV.t 4)] res 25 Xv9 args):Xao QP gp 100 args res:=Wqx.i Y4w h
def X64:List MO:=[Qa (Qv 1) (MOp.ibox (Qn 0)),Qa (Qv 2) (Qd (Qo (Qp (Qq (Qs false)))))]
def Y4y:MC:=.r0 X64
def X65:List MO:=[Qa (Qv 3) (Qg 0 (Qn 1)),Qa (Qv 4) (Qg 2 (Qn 3)),Qa (Qv 5) (Qf 3 true (Qn 4)),Qa (Qv 6) (Qh 18 [(Qn 5)]),Qa (Qv 7) (Qg 0 (Qn 1)),Qa (Qv 8) (Qg 5 (Qn 7)),Qa (Qv 9) (Qf 1 false (Qn 8)),Qa (Qv 10) (Qk Qt (Qn 9)),Qa (Qv 11) (Qe Qt Go.BinOp.eql (Qn 10) (Qo (Qp (Qq (Qr Qu 0))))),Qa (Qv 12) (Qg 0 (Qn 1)),Qa (Qv 13) (Qg 6 (Qn 12)),Qa (Qv 14) (Qf 1 false (Qn 13)),Qa (Qv 15) (Qk Qt (Qn 14)),Qa (Qv 16) (Qe Qt Go.BinOp.eql (Qn 15) (Qo (Qp (Qq (Qr Qu 0))))),Qa (Qv 17) (MOp.bslice 1 [(Qs false)] 3 [(0,(Qn 6)),(1,(Qn 11)),(2,(Qn 16))]),Qc (Qv 18) (Qh 128 [(Qn 17)]),Qa (Qv 2) (Qd (Qn 18))]
def Y4z:MC:=.reg true X65
def X66:MC:=.seq Y4y (.seq Y4z .ret)
attribute [go_sem] X64 X65
theorem Wqy:KK QP 106 f106 [1] X66 [(RV.t 2)] 19:=by refine⟨func106,?_,?_,?_,?_⟩<;>kernel_rfl
theorem Y40:Xaa QP 106=true:=by kernel_rfl
theorem Y41 (h:GI QP gp [(RV.t 2)] res 19 X66 args):Xao QP gp 106 args res:=Wqy.i Y40 h
def X67:List MO:=[Qa (Qv 1) (MOp.ibox (Qn 0)),Qa (Qv 2) (Qd (Qo (Qp (Qq (Qs false)))))]
def Y42:MC:=.r0 X67
def X68:List MO:=[Qa (Qv 3) (Qf 7 true (Qn 1)),Qa (Qv 4) (Qh 129 [(Qn 3)]),Qa (Qv 5) (Qg 0 (Qn 1)),Qa (Qv 6) (Qg 5 (Qn 5)),Qa (Qv 7) (Qf 1 false (Qn 6)),Qa (Qv 8) (Qk Qt (Qn 7)),Qa (Qv 9) (Qe Qt Go.BinOp.eql (Qn 8) (Qo (Qp (Qq (Qr Qu 0))))),Qa (Qv 10) (MOp.bslice 1 [(Qs false)] 2 [(0,(Qn 4)),(1,(Qn 9))]),Qc (Qv 11) (Qh 128 [(Qn 10)]),Qa (Qv 2) (Qd (Qn 11))]
def Y43:MC:=.reg true X68
def X69:MC:=.seq Y42 (.seq Y43 .ret)
attribute [go_sem] X67 X68
theorem Wqz:KK QP 107 f107 [1] X69 [(RV.t 2)] 12:=by refine⟨func107,?_,?_,?_,?_⟩<;>kernel_rfl
theorem Y44:Xaa QP 107=true:=by kernel_rfl
theorem Y45 (h:GI QP gp [(RV.t 2)] res 12 X69 args):Xao QP gp 107 args res:=Wqz.i Y44 h
def X7a:List MO:=[Qa (Qv 1) (MOp.ibox (Qn 0)),Qa (Qv 2) (Qd (Qo (Qp (Qq (Qs false)))))]
def Y46:MC:=.r0 X7a
def X7b:List MO:=[Qa (Qv 3) (Qf 7 true (Qn 1)),Qa (Qv 4) (Qh 129 [(Qn 3)]),Qa (Qv 5) (Qg 0 (Qn 1)),Qa (Qv 6) (Qg 5 (Qn 5)),Qa (Qv 7) (Qf 1 false (Qn 6)),Qa (Qv 8) (Qk Qt (Qn 7)),Qa (Qv 9) (Qg 0 (Qn 1)),Qa (Qv 10) (Qg 6 (Qn 9)),Qa (Qv 11) (Qf 1 false (Qn 10)),Qa (Qv 12) (Qk Qt (Qn 11)),Qa (Qv 13) (Qe Qt Go.BinOp.eql (Qn 8) (Qn 12)),Qa (Qv 14) (Qf 7 true (Qn 1)),Qa (Qv 15) (Qh 130 [(Qn 14)]),Qa (Qv 16) (MOp.bslice 1 [(Qs false)] 3 [(0,(Qn 4)),(1,(Qn 13)),(2,(Qn 15))]),Qc (Qv 17) (Qh 128 [(Qn 16)]),Qa (Qv 2) (Qd (Qn 17))]
def Y47:MC:=.reg true X7b
def X7c:MC:=.seq Y46 (.seq Y47 .ret)
attribute [go_sem] X7a X7b
theorem Wq0:KK QP 108 f108 [1] X7c [(RV.t 2)] 18:=by refine⟨func108,?_,?_,?_,?_⟩<;>kernel_rfl
theorem Y48:Xaa QP 108=true:=by kernel_rfl
theorem Y49 (h:GI QP gp [(RV.t 2)] res 18 X7c args):Xao QP gp 108 args res:=Wq0.i Y48 h
def X7d:List MO:=[Qa (Qv 1) (MOp.ibox (Qn 0)),Qa (Qv 2) (Qd (Qo (Qp (Qq (Qs false)))))]
def Y5a:MC:=.r0 X7d
def X7e:List MO:=[Qa (Qv 3) (Qf 7 true (Qn 1)),Qa (Qv 4) (Qh 129 [(Qn 3)]),Qa (Qv 5) (Qg 0 (Qn 1)),Qa (Qv 6) (Qg 5 (Qn 5)),Qa (Qv 7) (Qf 1 false (Qn 6)),Qa (Qv 8) (Qk Qt (Qn 7)),Qa (Qv 9) (Qe Qt Go.BinOp.eql (Qn 8) (Qo (Qp (Qq (Qr Qu 0))))),Qa (Qv 10) (Qg 0 (Qn 1)),Qa (Qv 11) (Qg 6 (Qn 10)),Qa (Qv 12) (Qf 1 false (Qn 11)),Qa (Qv 13) (Qk Qt (Qn 12)),Qa (Qv 14) (Qe Qt Go.BinOp.eql (Qn 13) (Qo (Qp (Qq (Qr Qu 0))))),Qa (Qv 15) (Qg 0 (Qn 1)),Qa (Qv 16) (Qg 1 (Qn 15)),Qa (Qv 17) (Qf 1 false (Qn 16)),Qa (Qv 18) (Qe Leaf.s Go.BinOp.neq (Qn 17) (Qo (Qp (Qq (D.str (ByteArray.mk #[])))))),Qa (Qv 19) (MOp.bslice 1 [(Qs false)] 4 [(0,(Qn 4)),(1,(Qn 9)),(2,(Qn 14)),(3,(Qn 18))]),Qc (Qv 20) (Qh 128 [(Qn 19)]),Qa (Qv 2) (Qd (Qn 20))]
def Y5b:MC:=.reg true X7e
def X7f:MC:=.seq Y5a (.seq Y5b .ret)
attribute [go_sem] X7d X7e
theorem Wq1:KK QP 109 f109 [1] X7f [(RV.t 2)] 21:=by refine⟨func109,?_,?_,?_,?_⟩<;>kernel_rfl
theorem Y5c:Xaa QP 109=true:=by kernel_rfl
theorem Y5d (h:GI QP gp [(RV.t 2)] res 21 X7f args):Xao QP gp 109 args res:=Wq1.i Y5c h
def X7g:List MO:=[Qa (Qv 2) (Qd (Qo (Qp (Qq (Qs false)))))]
def Y5e:MC:=.r0 X7g
def X7h:List MO:=[Qa (Qv 5) (Qd (Qn 0)),Qa (Qv 6) (MOp.rng (Qn 5))]
def Y5f:MC:=.r0 X7h
def X7i:List MO:=[Qa (Qv 7) (MOp.nxt (Qn 6)),Qa (Qv 8) (Qi (Qn 7) 0)]
def Y5g:MC:=.r0 X7i
def X7j:List MO:=[Qa (Qv 9) (Qi (Qn 7) 2),Qa (Qv 4) (Qd (Qn 9))]
def Y5h:MC:=.r0 X7j
def X7k:List MO:=[Qa (Qv 10) (Qd (Qn 4)),Qa (Qv 11) (Qh 131 [(Qn 10)]),Qa (Qv 12) (MOp.not (Qn 11))]
def Y5i:MC:=.r0 X7k
def X7l:List MO:=[Qa (Qv 2) (Qd (Qo (Qp (Qq (Qs false)))))]
def Y5j:MC:=.r0 X7l
def Yj8:MC:=.seq Y5g (.seq (.cond (Qn 8) .skip (MC.exit 0)) (.blk 1 (.seq Y5h (.seq Y5i (.cond (Qn 12) (.seq Y5j .ret) .skip)))))
def Xwa:List MO:=[Qa (Qv 13) (Qd (Qn 0)),Qa (Qv 14) (Qe Leaf.s Go.BinOp.neq (Qn 13) (Qo (Qp (Qq (D.str (ByteArray.mk #[])))))),Qa (Qv 15) (Qd (Qn 14)),Qb 15 true (Qv 16),Qa (Qv 16) (Qd (Qn 0)),Qb 15 true (Qv 17),Qa (Qv 17) (Qk Leaf.s (Qn 16)),Qb 15 true (Qv 18),Qa (Qv 18) (Qe Qt Go.BinOp.leq (Qn 17) (Qo (Qp (Qq (Qr Qu 20))))),Qa (Qv 19) (Qm (Qn 15) (Qn 18) (Qo (Qp (Qq (Qs false))))),Qa (Qv 2) (Qd (Qn 19))]
def Yj9:MC:=.r0 Xwa
def Xwb:MC:=.seq Y5e (.seq (.seq Y5f (.blk 0 (.loop Yj8))) (.seq Yj9 .ret))
attribute [go_sem] X7g X7h X7i X7j X7k X7l Xwa
theorem Wq2:KK QP 110 f110 [] Xwb [(RV.t 2)] 20:=by refine⟨func110,?_,?_,?_,?_⟩<;>kernel_rfl
theorem Y5k:Xaa QP 110=true:=by kernel_rfl
theorem Y5l (h:GI QP gp [(RV.t 2)] res 20 Xwb args):Xao QP gp 110 args res:=Wq2.i Y5k h
def X7m:List MO:=[Qa (Qv 1) (MOp.ibox (Qn 0)),Qa (Qv 2) (Qd (Qo (Qp (Qq D.nilF))))]
def Y5m:MC:=.r0 X7m
def X7n:List MO:=[Qa (Qv 3) (MOp.mkF (Go.Fn.func 132) [(Qn 1)]),Qa (Qv 2) (Qd (Qn 3))]
def Y5n:MC:=.r0 X7n
def X7o:MC:=.seq Y5m (.seq Y5n .ret)
attribute [go_sem] X7m X7n
theorem Wq3:KK QP 111 f111 [1] X7o [(RV.t 2)] 4:=by refine⟨func111,?_,?_,?_,?_⟩<;>kernel_rfl
theorem Y5o:Xaa QP 111=true:=by kernel_rfl
theorem Y5p (h:GI QP gp [(RV.t 2)] res 4 X7o args):Xao QP gp 111 args res:=Wq3.i Y5o h
def X7p:List MO:=[Qa (Qv 2) (Qd (Qo (Qp (Qq (Qs false)))))]
def Y5q:MC:=.r0 X7p
def X7q:List MO:=[Qa (Qv 3) (Qd (Qn 0)),Qa (Qv 4) (Qh 133 [(Qn 3),(Qo (Qp (Qq (Qs false))))]),Qa (Qv 5) (MOp.not (Qn 4)),Qa (Qv 2) (Qd (Qn 5))]
def Y5r:MC:=.r0 X7q
def X7r:MC:=.seq Y5q (.seq Y5r .ret)
attribute [go_sem] X7p X7q
theorem Wq4:KK QP 114 f114 [] X7r [(RV.t 2)] 6:=by refine⟨func114,?_,?_,?_,?_⟩<;>kernel_rfl
theorem Y5s:Xaa QP 114=true:=by kernel_rfl
theorem Y5t (h:GI QP gp [(RV.t 2)] res 6 X7r args):Xao QP gp 114 args res:=Wq4.i Y5s h
def X7s:List MO:=[Qa (Qv 1) (MOp.ibox (Qn 0)),Qa (Qv 2) (Qd (Qo (Qp (Qq (Qs false)))))]
def Y5u:MC:=.r0 X7s
def X7t:List MO:=[Qa (Qv 4) (MOp.mkF (Go.Fn.func 134) [(Qn 1)]),Qa (Qv 3) (Qd (Qn 4))]
def Y5v:MC:=.r0 X7t
def X7u:List MO:=[Qa (Qv 5) (Qg 0 (Qn 1)),Qa (Qv 6) (Qg 5 (Qn 5)),Qa (Qv 7) (Qf 1 false (Qn 6)),Qa (Qv 8) (Qd (Qn 3)),Qa (Qv 9) (Qh 135 [(Qn 7),(Qn 8)]),Qa (Qv 10) (MOp.not (Qn 9)),Qa (Qv 2) (Qd (Qn 10))]
def Y5w:MC:=.r0 X7u
def X7v:MC:=.seq Y5u (.seq Y5v (.seq Y5w .ret))
attribute [go_sem] X7s X7t X7u
theorem Wq5:KK QP 115 f115 [1] X7v [(RV.t 2)] 11:=by refine⟨func115,?_,?_,?_,?_⟩<;>kernel_rfl
theorem Y5x:Xaa QP 115=true:=by kernel_rfl
theorem Y5y (h:GI QP gp [(RV.t 2)] res 11 X7v args):Xao QP gp 115 args res:=Wq5.i Y5x h
def X7w:List MO:=[Qa (Qv 1) (MOp.ibox (Qn 0)),Qa (Qv 2) (Qd (Qo (Qp (Qq (Qs false)))))]
def Y5z:MC:=.r0 X7w
def X7x:List MO:=[Qa (Qv 3) (Qd (Qo (Qp (Qq (D.fn (Go.Fn.func 136) [])))))]
def Y50:MC:=.r0 X7x
def X7y:List MO:=[Qa (Qv 4) (Qg 0 (Qn 1)),Qa (Qv 5) (Qg 4 (Qn 4)),Qa (Qv 6) (Qf 1 false (Qn 5)),Qa (Qv 7) (Qd (Qn 3)),Qa (Qv 8) (Qh 137 [(Qn 6),(Qn 7)]),Qa (Qv 9) (MOp.not (Qn 8)),Qa (Qv 10) (Qd (Qn 9)),Qb 10 true (Qv 11),Qa (Qv 11) (Qg 0 (Qn 1)),Qb 10 true (Qv 12),Qa (Qv 12) (Qg 4 (Qn 11)),Qb 10 true (Qv 13),Qa (Qv 13) (Qf 1 false (Qn 12)),Qb 10 true (Qv 14),Qa (Qv 14) (Qh 80 [(Qn 13)]),Qb 10 true (Qv 15),Qa (Qv 15) (MOp.not (Qn 14)),Qa (Qv 16) (Qm (Qn 10) (Qn 15) (Qo (Qp (Qq (Qs false))))),Qa (Qv 2) (Qd (Qn 16))]
def Y51:MC:=.r0 X7y
def X7z:MC:=.seq Y5z (.seq Y50 (.seq Y51 .ret))
attribute [go_sem] X7w X7x X7y
theorem Wq6:KK QP 116 f116 [1] X7z [(RV.t 2)] 17:=by refine⟨func116,?_,?_,?_,?_⟩<;>kernel_rfl
theorem Y52:Xaa QP 116=true:=by kernel_rfl
theorem Y53 (h:GI QP gp [(RV.t 2)] res 17 X7z args):Xao QP gp 116 args res:=Wq6.i Y52 h
def X70:List MO:=[Qa (Qv 6) (Qd (Qo (Qp (Qq (Qr Qu 20)))))]
def Y54:MC:=.r0 X70
def X71:List MO:=[Qa (Qv 10) (Qd (Qn 6)),Qa (Qv 7) (Qd (Qo (Qp (Qq (Qr Qu 0))))),Qa (Qv 8) (Qd (Qn 10))]
def Y55:MC:=.r0 X71
def X72:List MO:=[Qa (Qv 11) (Qd (Qn 8)),Qa (Qv 12) (Qd (Qn 1)),Qa (Qv 13) (Qe Qt Go.BinOp.leq (Qn 11) (Qn 12))]
def Y56:MC:=.r0 X72
def X73:List MO:=[Qa (Qv 14) (Qd (Qn 0)),Qa (Qv 15) (Qd (Qn 7)),Qa (Qv 16) (Qd (Qn 8)),Qa (Qv 17) (Qd (Qn 2)),Qa (Qv 18) (Qh 140 [(Qn 14),(Qn 15),(Qn 16),(Qn 17)])]
def Y57:MC:=.r0 X73
def X74:List MO:=[Qa (Qv 19) (Qd (Qn 8)),Qa (Qv 7) (Qd (Qn 19))]
def Y58:MC:=.r0 X74
def X75:List MO:=[Qa (Qv 20) (Qd (Qn 8)),Qa (Qv 21) (Qd (Qn 6)),Qa (Qv 22) (Qe Qt Go.BinOp.add (Qn 20) (Qn 21)),Qa (Qv 8) (Qd (Qn 22))]
def Y59:MC:=.r0 X75
def Yka:MC:=.seq (.seq Y56 (.cond (Qn 13) .skip (MC.exit 0))) (.blk 1 (.seq Y57 (.seq Y58 Y59)))
def Xwc:List MO:=[Qa (Qv 23) (Qd (Qn 0)),Qa (Qv 24) (Qd (Qn 7)),Qa (Qv 25) (Qd (Qn 1)),Qa (Qv 26) (Qd (Qn 2)),Qa (Qv 27) (Qh 140 [(Qn 23),(Qn 24),(Qn 25),(Qn 26)])]
def Ykb:MC:=.r0 Xwc
def Xwd:List MO:=[Qa (Qv 28) (Qd (Qn 6)),Qa (Qv 29) (Qd (Qn 1)),Qa (Qv 30) (Qe Qt Go.BinOp.lss (Qn 28) (Qn 29))]
def Ykc:MC:=.r0 Xwd
def Xwe:List MO:=[Qa (Qv 31) (Qd (Qn 6)),Qa (Qv 32) (Qe Qt Go.BinOp.mul (Qo (Qp (Qq (Qr Qu 2)))) (Qn 31)),Qa (Qv 7) (Qd (Qo (Qp (Qq (Qr Qu 0))))),Qa (Qv 8) (Qd (Qn 32))]
def Ykd:MC:=.r0 Xwe
def Xwf:List MO:=[Qa (Qv 33) (Qd (Qn 8)),Qa (Qv 34) (Qd (Qn 1)),Qa (Qv 35) (Qe Qt Go.BinOp.leq (Qn 33) (Qn 34))]
def Yke:MC:=.r0 Xwf
def Xwg:List MO:=[Qa (Qv 36) (Qd (Qn 0)),Qa (Qv 37) (Qd (Qn 7)),Qa (Qv 38) (Qd (Qn 7)),Qa (Qv 39) (Qd (Qn 6)),Qa (Qv 40) (Qe Qt Go.BinOp.add (Qn 38) (Qn 39)),Qa (Qv 41) (Qd (Qn 8)),Qa (Qv 42) (Qd (Qn 2)),Qa (Qv 43) (Qh 141 [(Qn 36),(Qn 37),(Qn 40),(Qn 41),(Qn 42)])]
def Ykf:MC:=.r0 Xwg
def Xwh:List MO:=[Qa (Qv 44) (Qd (Qn 8)),Qa (Qv 7) (Qd (Qn 44))]
def Ykg:MC:=.r0 Xwh
def Xwi:List MO:=[Qa (Qv 45) (Qd (Qn 8)),Qa (Qv 46) (Qd (Qn 6)),Qa (Qv 47) (Qe Qt Go.BinOp.mul (Qo (Qp (Qq (Qr Qu 2)))) (Qn 46)),Qa (Qv 48) (Qe Qt Go.BinOp.add (Qn 45) (Qn 47)),Qa (Qv 8) (Qd (Qn 48))]
def Ykh:MC:=.r0 Xwi
def Yki:MC:=.seq (.seq Yke (.cond (Qn 35) .skip (MC.exit 4))) (.blk 5 (.seq Ykf (.seq Ykg Ykh)))
def Xwj:List MO:=[Qa (Qv 49) (Qd (Qn 7)),Qa (Qv 50) (Qd (Qn 6)),Qa (Qv 51) (Qe Qt Go.BinOp.add (Qn 49) (Qn 50)),Qa (Qv 9) (Qd (Qn 51))]
def Ykj:MC:=.r0 Xwj
def Xwk:List MO:=[Qa (Qv 52) (Qd (Qn 9)),Qa (Qv 53) (Qd (Qn 1)),Qa (Qv 54) (Qe Qt Go.BinOp.lss (Qn 52) (Qn 53))]
def Ykk:MC:=.r0 Xwk
def Xwl:List MO:=[Qa (Qv 55) (Qd (Qn 0)),Qa (Qv 56) (Qd (Qn 7)),Qa (Qv 57) (Qd (Qn 9)),Qa (Qv 58) (Qd (Qn 1)),Qa (Qv 59) (Qd (Qn 2)),Qa (Qv 60) (Qh 141 [(Qn 55),(Qn 56),(Qn 57),(Qn 58),(Qn 59)])]
def Ykl:MC:=.r0 Xwl
def Xwm:List MO:=[Qa (Qv 61) (Qd (Qn 6)),Qa (Qv 62) (Qe Qt Go.BinOp.mul (Qn 61) (Qo (Qp (Qq (Qr Qu 2))))),Qa (Qv 6) (Qd (Qn 62))]
def Ykm:MC:=.r0 Xwm
def Ykn:MC:=.seq (.seq Ykj (.seq Ykk (.cond (Qn 54) Ykl .skip))) Ykm
def Yko:MC:=.seq (.seq Ykc (.cond (Qn 30) .skip (MC.exit 2))) (.blk 3 (.seq Ykd (.seq (.blk 4 (.loop Yki)) Ykn)))
def Ykp:MC:=.seq Y55 (.seq (.blk 0 (.loop Yka)) (.seq Ykb (.blk 2 (.loop Yko))))
def Xwn:MC:=.seq Y54 Ykp
attribute [go_sem] X70 X71 X72 X73 X74 X75 Xwc Xwd Xwe Xwf Xwg Xwh Xwi Xwj Xwk Xwl Xwm
theorem Wq7:KK QP 119 f119 [] Xwn [] 63:=by refine⟨func119,?_,?_,?_,?_⟩<;>kernel_rfl
theorem Y6a:Xaa QP 119=true:=by kernel_rfl
theorem Ykq (h:GT QP gp [] pre R 63 Xwn args):Tri QP gp 119 args pre R:=Wq7.t h
def X76:List MO:=[Qa (Qv 2) (Qd (Qo (Qp (Qq (Qr Qu 0)))))]
def Y6b:MC:=.r0 X76
def X77:List MO:=[Qa (Qv 3) (Qd (Qo (Qp (Qq (Qr Qu 0)))))]
def Y6c:MC:=.r0 X77
def X78:List MO:=[Qa (Qv 6) (Qd (Qn 0)),Qa (Qv 7) (Qk Qt (Qn 6)),Qa (Qv 8) (Qd (Qo (Qp (Qq (Qr Qu 0)))))]
def Y6d:MC:=.r0 X78
def X79:List MO:=[Qa (Qv 9) (Qe Qt Go.BinOp.lss (Qn 8) (Qn 7))]
def Y6e:MC:=.r0 X79
def X8a:List MO:=[Qa (Qv 10) (Qj 1 (Qn 6) (Qn 8)),Qa (Qv 11) (Qf 1 false (Qn 10)),Qa (Qv 5) (Qd (Qn 11))]
def Y6f:MC:=.r0 X8a
def X8b:List MO:=[Qa (Qv 12) (Qd (Qn 5)),Qa (Qv 13) (Qd (Qn 3)),Qa (Qv 14) (Qe Qt Go.BinOp.neq (Qn 12) (Qn 13))]
def Y6g:MC:=.r0 X8b
def X8c:List MO:=[Qa (Qv 15) (Qd (Qn 5)),Qa (Qv 2) (Qd (Qn 15))]
def Y6h:MC:=.r0 X8c
def Xwo:List MO:=[Qa (Qv 16) (Qe Qt Go.BinOp.add (Qn 8) (Qo (Qp (Qq (Qr Qu 1))))),Qa (Qv 8) (Qd (Qn 16))]
def Ykr:MC:=.r0 Xwo
def Yks:MC:=.seq (.blk 1 (.seq Y6f (.seq Y6g (.cond (Qn 14) (.seq Y6h .ret) .skip)))) Ykr
def Xwp:List MO:=[Qa (Qv 17) (Qd (Qn 3)),Qa (Qv 2) (Qd (Qn 17))]
def Ykt:MC:=.r0 Xwp
def Yku:MC:=.seq (.seq Y6d (.blk 0 (.loop (.seq Y6e (.seq (.cond (Qn 9) .skip (MC.exit 0)) Yks))))) (.seq Ykt .ret)
def Xwq:MC:=.seq Y6b (.seq Y6c Yku)
attribute [go_sem] X76 X77 X78 X79 X8a X8b X8c Xwo Xwp
theorem Wq8:KK QP 120 f120 [] Xwq [(RV.t 2)] 18:=by refine⟨func120,?_,?_,?_,?_⟩<;>kernel_rfl
theorem Y6i:Xaa QP 120=true:=by kernel_rfl
theorem Y6j (h:GI QP gp [(RV.t 2)] res 18 Xwq args):Xao QP gp 120 args res:=Wq8.i Y6i h
def X8d:List MO:=[Qa (Qv 4) (Qd (Qo (Qp (Qq (Qr Qu 0)))))]
def Y6k:MC:=.r0 X8d
def X8e:List MO:=[Qa (Qv 7) (Qd (Qn 0)),Qa (Qv 8) (Qh 142 [(Qn 7)]),Qa (Qv 5) (Qd (Qn 8))]
def Y6l:MC:=.r0 X8e
def X8f:List MO:=[Qa (Qv 9) (Qd (Qn 1)),Qa (Qv 10) (Qh 142 [(Qn 9)]),Qa (Qv 6) (Qd (Qn 10))]
def Y6m:MC:=.r0 X8f
def X8g:List MO:=[Qa (Qv 11) (Qd (Qn 5))]
def Y6n:MC:=.r0 X8g
def X8h:List MO:=[Qa (Qv 12) (Qd (Qn 6))]
def Y6o:MC:=.r0 X8h
def X8i:List MO:=[Qa (Qv 4) (Qd (Qo (Qp (Qq (Qr Qu 0)))))]
def Y6p:MC:=.r0 X8i
def Xwr:List MO:=[Qa (Qv 4) (Qd (Qo (Qp (Qq (Qr Qu (-1))))))]
def Ykv:MC:=.r0 Xwr
def Ykw:MC:=.seq Y6n (.cond (Qn 11) (.seq (.seq Y6o (.cond (Qn 12) (.seq Y6p .ret) .skip)) (.seq Ykv .ret)) .skip)
def Xws:List MO:=[Qa (Qv 13) (Qd (Qn 6))]
def Ykx:MC:=.r0 Xws
def Xwt:List MO:=[Qa (Qv 4) (Qd (Qo (Qp (Qq (Qr Qu 1)))))]
def Yky:MC:=.r0 Xwt
def Xwu:List MO:=[Qa (Qv 14) (Qd (Qn 0)),Qa (Qv 15) (Qd (Qn 1)),Qa (Qv 16) (Qe Qt Go.BinOp.lss (Qn 14) (Qn 15))]
def Ykz:MC:=.r0 Xwu
def Xwv:List MO:=[Qa (Qv 4) (Qd (Qo (Qp (Qq (Qr Qu (-1))))))]
def Yk0:MC:=.r0 Xwv
def Xww:List MO:=[Qa (Qv 17) (Qd (Qn 0)),Qa (Qv 18) (Qd (Qn 1)),Qa (Qv 19) (Qe Qt Go.BinOp.gtr (Qn 17) (Qn 18))]
def Yk1:MC:=.r0 Xww
def Xwx:List MO:=[Qa (Qv 4) (Qd (Qo (Qp (Qq (Qr Qu 1)))))]
def Yk2:MC:=.r0 Xwx
def Xwy:List MO:=[Qa (Qv 4) (Qd (Qo (Qp (Qq (Qr Qu 0)))))]
def Yk3:MC:=.r0 Xwy
def Yk4:MC:=.seq (.seq Ykz (.cond (Qn 16) (.seq Yk0 .ret) .skip)) (.seq (.seq Yk1 (.cond (Qn 19) (.seq Yk2 .ret) .skip)) (.seq Yk3 .ret))
def Yk5:MC:=.seq Ykw (.seq (.seq Ykx (.cond (Qn 13) (.seq Yky .ret) .skip)) Yk4)
def Xwz:MC:=.seq Y6k (.seq Y6l (.seq Y6m Yk5))
attribute [go_sem] X8d X8e X8f X8g X8h X8i Xwr Xws Xwt Xwu Xwv Xww Xwx Xwy
theorem Wq9:KK QP 121 f121 [] Xwz [(RV.t 4)] 20:=by refine⟨func121,?_,?_,?_,?_⟩<;>kernel_rfl
theorem Y6q:Xaa QP 121=true:=by kernel_rfl
theorem Y6r (h:GI QP gp [(RV.t 4)] res 20 Xwz args):Xao QP gp 121 args res:=Wq9.i Y6q h
def X8j:List MO:=[Qa (Qv 4) (Qd (Qo (Qp (Qq (Qr Qu 0)))))]
def Y6s:MC:=.r0 X8j
def X8k:List MO:=[Qa (Qv 7) (Qd (Qn 0)),Qa (Qv 8) (Qh 143 [(Qn 7)]),Qa (Qv 5) (Qd (Qn 8))]
def Y6t:MC:=.r0 X8k
def X8l:List MO:=[Qa (Qv 9) (Qd (Qn 1)),Qa (Qv 10) (Qh 143 [(Qn 9)]),Qa (Qv 6) (Qd (Qn 10))]
def Y6u:MC:=.r0 X8l
def X8m:List MO:=[Qa (Qv 11) (Qd (Qn 5))]
def Y6v:MC:=.r0 X8m
def X8n:List MO:=[Qa (Qv 12) (Qd (Qn 6))]
def Y6w:MC:=.r0 X8n
def X8o:List MO:=[Qa (Qv 4) (Qd (Qo (Qp (Qq (Qr Qu 0)))))]
def Y6x:MC:=.r0 X8o
def Xw0:List MO:=[Qa (Qv 4) (Qd (Qo (Qp (Qq (Qr Qu (-1))))))]
def Yk6:MC:=.r0 Xw0
def Yk7:MC:=.seq Y6v (.cond (Qn 11) (.seq (.seq Y6w (.cond (Qn 12) (.seq Y6x .ret) .skip)) (.seq Yk6 .ret)) .skip)
def Xw1:List MO:=[Qa (Qv 13) (Qd (Qn 6))]
def Yk8:MC:=.r0 Xw1
def Xw2:List MO:=[Qa (Qv 4) (Qd (Qo (Qp (Qq (Qr Qu 1)))))]
def Yk9:MC:=.r0 Xw2
def Xw3:List MO:=[Qa (Qv 14) (Qd (Qn 0)),Qa (Qv 15) (Qd (Qn 1)),Qa (Qv 16) (Qe Leaf.s Go.BinOp.lss (Qn 14) (Qn 15))]
def Yla:MC:=.r0 Xw3
def Xw4:List MO:=[Qa (Qv 4) (Qd (Qo (Qp (Qq (Qr Qu (-1))))))]
def Ylb:MC:=.r0 Xw4
def Xw5:List MO:=[Qa (Qv 17) (Qd (Qn 0)),Qa (Qv 18) (Qd (Qn 1)),Qa (Qv 19) (Qe Leaf.s Go.BinOp.gtr (Qn 17) (Qn 18))]
def Ylc:MC:=.r0 Xw5
def Xw6:List MO:=[Qa (Qv 4) (Qd (Qo (Qp (Qq (Qr Qu 1)))))]
def Yld:MC:=.r0 Xw6
def Xw7:List MO:=[Qa (Qv 4) (Qd (Qo (Qp (Qq (Qr Qu 0)))))]
def Yle:MC:=.r0 Xw7
def Ylf:MC:=.seq (.seq Yla (.cond (Qn 16) (.seq Ylb .ret) .skip)) (.seq (.seq Ylc (.cond (Qn 19) (.seq Yld .ret) .skip)) (.seq Yle .ret))
def Ylg:MC:=.seq Yk7 (.seq (.seq Yk8 (.cond (Qn 13) (.seq Yk9 .ret) .skip)) Ylf)
def Xw8:MC:=.seq Y6s (.seq Y6t (.seq Y6u Ylg))
attribute [go_sem] X8j X8k X8l X8m X8n X8o Xw0 Xw1 Xw2 Xw3 Xw4 Xw5 Xw6 Xw7
theorem Wra:KK QP 122 f122 [] Xw8 [(RV.t 4)] 20:=by refine⟨func122,?_,?_,?_,?_⟩<;>kernel_rfl
theorem Y6y:Xaa QP 122=true:=by kernel_rfl
theorem Y6z (h:GI QP gp [(RV.t 4)] res 20 Xw8 args):Xao QP gp 122 args res:=Wra.i Y6y h
def X8p:List MO:=[Qa (Qv 2) (Qd (Qo (Qp (Qq (Qs false)))))]
def Y60:MC:=.r0 X8p
def X8q:List MO:=[Qa (Qv 3) (Qd (Qn 0)),Qa (Qv 4) (Qh 133 [(Qn 3),(Qo (Qp (Qq (Qs false))))]),Qa (Qv 5) (MOp.not (Qn 4)),Qa (Qv 2) (Qd (Qn 5))]
def Y61:MC:=.r0 X8q
def X8r:MC:=.seq Y60 (.seq Y61 .ret)
attribute [go_sem] X8p X8q
theorem Wrb:KK QP 128 f128 [] X8r [(RV.t 2)] 6:=by refine⟨func128,?_,?_,?_,?_⟩<;>kernel_rfl
theorem Y62:Xaa QP 128=true:=by kernel_rfl
theorem Y63 (h:GI QP gp [(RV.t 2)] res 6 X8r args):Xao QP gp 128 args res:=Wrb.i Y62 h
def X8s:List MO:=[Qa (Qv 1) (MOp.ibox (Qn 0)),Qa (Qv 2) (Qd (Qo (Qp (Qq (Qs false)))))]
def Y64:MC:=.r0 X8s
def X8t:List MO:=[Qa (Qv 3) (Qg 0 (Qn 1)),Qa (Qv 4) (Qg 2 (Qn 3)),Qa (Qv 5) (Qf 3 true (Qn 4)),Qa (Qv 6) (MOp.build [(Qr Qu 0),(Qr Qu 0),(D.str (ByteArray.mk #[]))] []),Qa (Qv 7) (MOp.eqs false [Qt,Qt,Leaf.s] (Qn 5) (Qn 6)),Qa (Qv 2) (Qd (Qn 7))]
def Y65:MC:=.r0 X8t
def X8u:MC:=.seq Y64 (.seq Y65 .ret)
attribute [go_sem] X8s X8t
theorem Wrc:KK QP 129 f129 [1] X8u [(RV.t 2)] 8:=by refine⟨func129,?_,?_,?_,?_⟩<;>kernel_rfl
theorem Y66:Xaa QP 129=true:=by kernel_rfl
theorem Y67 (h:GI QP gp [(RV.t 2)] res 8 X8u args):Xao QP gp 129 args res:=Wrc.i Y66 h
def X8v:List MO:=[Qa (Qv 1) (MOp.ibox (Qn 0)),Qa (Qv 2) (Qd (Qo (Qp (Qq (Qs false)))))]
def Y68:MC:=.r0 X8v
def X8w:List MO:=[Qa (Qv 3) (Qd (Qo (Qp (Qq (D.fn (Go.Fn.func 146) [])))))]
def Y69:MC:=.r0 X8w
def X8x:List MO:=[Qa (Qv 4) (Qg 0 (Qn 1)),Qa (Qv 5) (Qg 5 (Qn 4)),Qa (Qv 6) (Qf 1 false (Qn 5)),Qa (Qv 7) (Qd (Qn 3)),Qa (Qv 8) (Qh 137 [(Qn 6),(Qn 7)]),Qa (Qv 9) (MOp.not (Qn 8)),Qa (Qv 2) (Qd (Qn 9))]
def Y7a:MC:=.r0 X8x
def X8y:MC:=.seq Y68 (.seq Y69 (.seq Y7a .ret))
attribute [go_sem] X8v X8w X8x
theorem Wrd:KK QP 130 f130 [1] X8y [(RV.t 2)] 10:=by refine⟨func130,?_,?_,?_,?_⟩<;>kernel_rfl
theorem Y7b:Xaa QP 130=true:=by kernel_rfl
theorem Y7c (h:GI QP gp [(RV.t 2)] res 10 X8y args):Xao QP gp 130 args res:=Wrd.i Y7b h
def X8z:List MO:=[Qa (Qv 2) (Qd (Qo (Qp (Qq (Qs false)))))]
def Y7d:MC:=.r0 X8z
def X80:List MO:=[Qa (Qv 3) (Qd (Qn 0)),Qa (Qv 4) (Qe Qt Go.BinOp.geq (Qn 3) (Qo (Qp (Qq (Qr Go.IntKind.i32 65))))),Qa (Qv 5) (Qd (Qn 4)),Qb 5 true (Qv 6),Qa (Qv 6) (Qd (Qn 0)),Qb 5 true (Qv 7),Qa (Qv 7) (Qe Qt Go.BinOp.leq (Qn 6) (Qo (Qp (Qq (Qr Go.IntKind.i32 90))))),Qa (Qv 8) (Qm (Qn 5) (Qn 7) (Qo (Qp (Qq (Qs false))))),Qa (Qv 9) (Qd (Qn 8)),Qb 9 false (Qv 10),Qa (Qv 10) (Qd (Qn 0)),Qb 9 false (Qv 11),Qa (Qv 11) (Qe Qt Go.BinOp.geq (Qn 10) (Qo (Qp (Qq (Qr Go.IntKind.i32 97))))),Qb 9 false (Qv 12),Qa (Qv 12) (Qd (Qn 11)),Qb 12 true (Qv 13),Qa (Qv 13) (Qd (Qn 0)),Qb 12 true (Qv 14),Qa (Qv 14) (Qe Qt Go.BinOp.leq (Qn 13) (Qo (Qp (Qq (Qr Go.IntKind.i32 122))))),Qb 9 false (Qv 15),Qa (Qv 15) (Qm (Qn 12) (Qn 14) (Qo (Qp (Qq (Qs false))))),Qa (Qv 16) (Qm (Qn 9) (Qo (Qp (Qq (Qs true)))) (Qn 15)),Qa (Qv 17) (Qd (Qn 16)),Qb 17 false (Qv 18),Qa (Qv 18) (Qd (Qn 0)),Qb 17 false (Qv 19),Qa (Qv 19) (Qe Qt Go.BinOp.geq (Qn 18) (Qo (Qp (Qq (Qr Go.IntKind.i32 48))))),Qb 17 false (Qv 20),Qa (Qv 20) (Qd (Qn 19)),Qb 20 true (Qv 21),Qa (Qv 21) (Qd (Qn 0)),Qb 20 true (Qv 22),Qa (Qv 22) (Qe Qt Go.BinOp.leq (Qn 21) (Qo (Qp (Qq (Qr Go.IntKind.i32 57))))),Qb 17 false (Qv 23),Qa (Qv 23) (Qm (Qn 20) (Qn 22) (Qo (Qp (Qq (Qs false))))),Qa (Qv 24) (Qm (Qn 17) (Qo (Qp (Qq (Qs true)))) (Qn 23)),Qa (Qv 25) (Qd (Qn 24)),Qb 25 false (Qv 26),Qa (Qv 26) (Qd (Qn 0)),Qb 25 false (Qv 27),Qa (Qv 27) (Qe Qt Go.BinOp.eql (Qn 26) (Qo (Qp (Qq (Qr Go.IntKind.i32 95))))),Qa (Qv 28) (Qm (Qn 25) (Qo (Qp (Qq (Qs true)))) (Qn 27)),Qa (Qv 29) (Qd (Qn 28)),Qb 29 false (Qv 30),Qa (Qv 30) (Qd (Qn 0)),Qb 29 false (Qv 31),Qa (Qv 31) (Qe Qt Go.BinOp.eql (Qn 30) (Qo (Qp (Qq (Qr Go.IntKind.i32 45))))),Qa (Qv 32) (Qm (Qn 29) (Qo (Qp (Qq (Qs true)))) (Qn 31)),Qa (Qv 2) (Qd (Qn 32))]
def Y7e:MC:=.r0 X80
def X81:MC:=.seq Y7d (.seq Y7e .ret)
attribute [go_sem] X8z X80
theorem Wre:KK QP 131 f131 [] X81 [(RV.t 2)] 33:=by refine⟨func131,?_,?_,?_,?_⟩<;>kernel_rfl
theorem Y7f:Xaa QP 131=true:=by kernel_rfl
theorem Y7g (h:GI QP gp [(RV.t 2)] res 33 X81 args):Xao QP gp 131 args res:=Wre.i Y7f h
def X82:List MO:=[Qa (Qv 6) MOp.mkM,Qa (Qv 3) (Qd (Qn 6))]
def Y7h:MC:=.r0 X82
def X83:List MO:=[Qa (Qv 7) (Qf 1 false (Qn 1)),Qa (Qv 8) (Qk Qt (Qn 7)),Qa (Qv 9) (Qd (Qo (Qp (Qq (Qr Qu 0)))))]
def Y7i:MC:=.r0 X83
def X84:List MO:=[Qa (Qv 10) (Qe Qt Go.BinOp.lss (Qn 9) (Qn 8))]
def Y7j:MC:=.r0 X84
def X85:List MO:=[Qa (Qv 11) (Qj 3 (Qn 7) (Qn 9)),Qa (Qv 12) (Qf 3 true (Qn 11)),Qa (Qv 5) (MOp.alloc [(Qr Qu 0),(Qr Qu 0),(D.str (ByteArray.mk #[]))]),Qa none (Ql 3 (Qn 5) (Qn 12))]
def Y7k:MC:=.r0 X85
def X86:List MO:=[Qa (Qv 13) (Qd (Qn 3)),Qa (Qv 14) (Qf 3 true (Qn 5)),Qa (Qv 15) (MOp.lkp false (Qp (Qq (Qs false))) true [Qt,Qt,Leaf.s] (Qn 13) (Qn 14)),Qa (Qv 16) (Qd (Qn 15)),Qb 16 false (Qv 17),Qa (Qv 17) (Qd (Qn 0)),Qb 16 false (Qv 18),Qa (Qv 18) (Qf 3 true (Qn 5)),Qb 16 false (Qv 19),Qa (Qv 19) (MOp.callv (Qn 17) [(Qn 18)]),Qb 16 false (Qv 20),Qa (Qv 20) (MOp.not (Qn 19)),Qa (Qv 21) (Qm (Qn 16) (Qo (Qp (Qq (Qs true)))) (Qn 20))]
def Y7l:MC:=.r0 X86
def Xw9:List MO:=[Qa (Qv 22) (Qd (Qn 3)),Qa (Qv 23) (Qf 3 true (Qn 5)),Qa none (MOp.mupd true [Qt,Qt,Leaf.s] (Qn 22) (Qn 23) (Qo (Qp (Qq (Qs true)))))]
def Ylh:MC:=.r0 Xw9
def Xxa:List MO:=[Qa (Qv 24) (Qe Qt Go.BinOp.add (Qn 9) (Qo (Qp (Qq (Qr Qu 1))))),Qa (Qv 9) (Qd (Qn 24))]
def Yli:MC:=.r0 Xxa
def Ylj:MC:=.seq (.blk 1 (.seq Y7k (.seq (.seq Y7l (.cond (Qn 21) (MC.exit 0) .skip)) Ylh))) Yli
def Ylk:MC:=.seq Y7h (.seq .skip (.seq Y7i (.blk 0 (.loop (.seq Y7j (.seq (.cond (Qn 10) .skip (MC.exit 0)) Ylj))))))
def Xxb:MC:=.scope Ylk
attribute [go_sem] X82 X83 X84 X85 X86 Xw9 Xxa
theorem Wrf:KK QP 132 f132 [] Xxb [] 25:=by refine⟨func132,?_,?_,?_,?_⟩<;>kernel_rfl
theorem Y7m:Xaa QP 132=true:=by kernel_rfl
theorem Yll (h:GT QP gp [] pre R 25 Xxb args):Tri QP gp 132 args pre R:=Wrf.t h
def X87:List MO:=[Qa (Qv 4) (Qd (Qo (Qp (Qq (Qs false)))))]
def Y7n:MC:=.r0 X87
def X88:List MO:=[Qa (Qv 5) (Qd (Qn 0)),Qa (Qv 6) (Qd (Qn 1)),Qa (Qv 7) (Qh 147 [(Qn 5),(Qn 6)]),Qa (Qv 8) (Qe Qt Go.BinOp.geq (Qn 7) (Qo (Qp (Qq (Qr Qu 0))))),Qa (Qv 4) (Qd (Qn 8))]
def Y7o:MC:=.r0 X88
def X89:MC:=.seq Y7n (.seq Y7o .ret)
attribute [go_sem] X87 X88
theorem Wrg:KK QP 133 f133 [] X89 [(RV.t 4)] 9:=by refine⟨func133,?_,?_,?_,?_⟩<;>kernel_rfl
theorem Y7p:Xaa QP 133=true:=by kernel_rfl
theorem Y7q (h:GI QP gp [(RV.t 4)] res 9 X89 args):Xao QP gp 133 args res:=Wrg.i Y7p h
def X9a:List MO:=[Qa (Qv 3) (Qd (Qo (Qp (Qq (Qs false)))))]
def Y7r:MC:=.r0 X9a
def X9b:List MO:=[Qa (Qv 4) (Qd (Qn 0)),Qa (Qv 5) (Qe Qt Go.BinOp.lss (Qn 4) (Qo (Qp (Qq (Qr Qu 0))))),Qa (Qv 6) (Qd (Qn 5)),Qb 6 false (Qv 7),Qa (Qv 7) (Qd (Qn 0)),Qb 6 false (Qv 8),Qa (Qv 8) (Qg 6 (Qn 1)),Qb 6 false (Qv 9),Qa (Qv 9) (Qf 1 false (Qn 8)),Qb 6 false (Qv 10),Qa (Qv 10) (Qe Qt Go.BinOp.geq (Qn 7) (Qn 9)),Qa (Qv 11) (Qm (Qn 6) (Qo (Qp (Qq (Qs true)))) (Qn 10)),Qa (Qv 3) (Qd (Qn 11))]
def Y7s:MC:=.r0 X9b
def X9c:MC:=.seq Y7r (.seq Y7s .ret)
attribute [go_sem] X9a X9b
theorem Wrh:KK QP 134 f134 [] X9c [(RV.t 3)] 12:=by refine⟨func134,?_,?_,?_,?_⟩<;>kernel_rfl
theorem Y7t:Xaa QP 134=true:=by kernel_rfl
theorem Y7u (h:GI QP gp [(RV.t 3)] res 12 X9c args):Xao QP gp 134 args res:=Wrh.i Y7t h
def X9d:List MO:=[Qa (Qv 4) (Qd (Qo (Qp (Qq (Qs false)))))]
def Y7v:MC:=.r0 X9d
def X9e:List MO:=[Qa (Qv 5) (Qd (Qn 0)),Qa (Qv 6) (Qd (Qn 1)),Qa (Qv 7) (Qh 148 [(Qn 5),(Qn 6)]),Qa (Qv 8) (Qe Qt Go.BinOp.geq (Qn 7) (Qo (Qp (Qq (Qr Qu 0))))),Qa (Qv 4) (Qd (Qn 8))]
def Y7w:MC:=.r0 X9e
def X9f:MC:=.seq Y7v (.seq Y7w .ret)
attribute [go_sem] X9d X9e
theorem Wri:KK QP 135 f135 [] X9f [(RV.t 4)] 9:=by refine⟨func135,?_,?_,?_,?_⟩<;>kernel_rfl
theorem Y7x:Xaa QP 135=true:=by kernel_rfl
theorem Y7y (h:GI QP gp [(RV.t 4)] res 9 X9f args):Xao QP gp 135 args res:=Wri.i Y7x h
def X9g:List MO:=[Qa (Qv 1) (MOp.ibox (Qn 0)),Qa (Qv 2) (Qd (Qo (Qp (Qq (Qs false)))))]
def Y7z:MC:=.r0 X9g
def X9h:List MO:=[Qa (Qv 3) (Qf 3 true (Qn 1)),Qa (Qv 4) (Qh 18 [(Qn 3)]),Qa (Qv 5) (MOp.not (Qn 4)),Qa (Qv 2) (Qd (Qn 5))]
def Y70:MC:=.r0 X9h
def X9i:MC:=.seq Y7z (.seq Y70 .ret)
attribute [go_sem] X9g X9h
theorem Wrj:KK QP 136 f136 [1] X9i [(RV.t 2)] 6:=by refine⟨func136,?_,?_,?_,?_⟩<;>kernel_rfl
theorem Y71:Xaa QP 136=true:=by kernel_rfl
theorem Y72 (h:GI QP gp [(RV.t 2)] res 6 X9i args):Xao QP gp 136 args res:=Wrj.i Y71 h
def X9j:List MO:=[Qa (Qv 4) (Qd (Qo (Qp (Qq (Qs false)))))]
def Y73:MC:=.r0 X9j
def X9k:List MO:=[Qa (Qv 5) (Qd (Qn 0)),Qa (Qv 6) (Qd (Qn 1)),Qa (Qv 7) (Qh 149 [(Qn 5),(Qn 6)]),Qa (Qv 8) (Qe Qt Go.BinOp.geq (Qn 7) (Qo (Qp (Qq (Qr Qu 0))))),Qa (Qv 4) (Qd (Qn 8))]
def Y74:MC:=.r0 X9k
def X9l:MC:=.seq Y73 (.seq Y74 .ret)
attribute [go_sem] X9j X9k
theorem Wrk:KK QP 137 f137 [] X9l [(RV.t 4)] 9:=by refine⟨func137,?_,?_,?_,?_⟩<;>kernel_rfl
theorem Y75:Xaa QP 137=true:=by kernel_rfl
theorem Y76 (h:GI QP gp [(RV.t 4)] res 9 X9l args):Xao QP gp 137 args res:=Wrk.i Y75 h
def X9m:List MO:=[Qa (Qv 10) (Qd (Qn 1)),Qa (Qv 11) (Qe Qt Go.BinOp.add (Qn 10) (Qo (Qp (Qq (Qr Qu 1))))),Qa (Qv 8) (Qd (Qn 11))]
def Y77:MC:=.r0 X9m
def X9n:List MO:=[Qa (Qv 12) (Qd (Qn 8)),Qa (Qv 13) (Qd (Qn 2)),Qa (Qv 14) (Qe Qt Go.BinOp.lss (Qn 12) (Qn 13))]
def Y78:MC:=.r0 X9n
def X9o:List MO:=[Qa (Qv 17) (Qd (Qn 8)),Qa (Qv 9) (Qd (Qn 17))]
def Y79:MC:=.r0 X9o
def X9p:List MO:=[Qa (Qv 18) (Qd (Qn 9)),Qa (Qv 19) (Qd (Qn 1)),Qa (Qv 20) (Qe Qt Go.BinOp.gtr (Qn 18) (Qn 19)),Qa (Qv 21) (Qd (Qn 20)),Qb 21 true (Qv 22),Qa (Qv 22) (Qd (Qn 3)),Qb 21 true (Qv 23),Qa (Qv 23) (Qd (Qn 0)),Qb 21 true (Qv 24),Qa (Qv 24) (Qd (Qn 9)),Qb 21 true (Qv 25),Qa (Qv 25) (Qj 4 (Qn 23) (Qn 24)),Qb 21 true (Qv 26),Qa (Qv 26) (Qf 4 true (Qn 25)),Qb 21 true (Qv 27),Qa (Qv 27) (Qd (Qn 0)),Qb 21 true (Qv 28),Qa (Qv 28) (Qd (Qn 9)),Qb 21 true (Qv 29),Qa (Qv 29) (Qe Qt Go.BinOp.sub (Qn 28) (Qo (Qp (Qq (Qr Qu 1))))),Qb 21 true (Qv 30),Qa (Qv 30) (Qj 4 (Qn 27) (Qn 29)),Qb 21 true (Qv 31),Qa (Qv 31) (Qf 4 true (Qn 30)),Qb 21 true (Qv 32),Qc (Qv 32) (MOp.callv (Qn 22) [(Qn 26),(Qn 31)]),Qb 21 true (Qv 33),Qa (Qv 33) (Qe Qt Go.BinOp.lss (Qn 32) (Qo (Qp (Qq (Qr Qu 0))))),Qa (Qv 34) (Qm (Qn 21) (Qn 33) (Qo (Qp (Qq (Qs false)))))]
def Y8a:MC:=.reg true X9p
def Xxc:List MO:=[Qa (Qv 37) (Qd (Qn 0)),Qa (Qv 38) (Qd (Qn 9)),Qa (Qv 39) (Qd (Qn 0)),Qa (Qv 40) (Qd (Qn 9)),Qa (Qv 41) (Qe Qt Go.BinOp.sub (Qn 40) (Qo (Qp (Qq (Qr Qu 1))))),Qa (Qv 42) (Qd (Qn 0)),Qa (Qv 43) (Qd (Qn 9)),Qa (Qv 44) (Qe Qt Go.BinOp.sub (Qn 43) (Qo (Qp (Qq (Qr Qu 1))))),Qa (Qv 45) (Qj 4 (Qn 42) (Qn 44)),Qa (Qv 46) (Qf 4 true (Qn 45)),Qa (Qv 47) (Qd (Qn 0)),Qa (Qv 48) (Qd (Qn 9)),Qa (Qv 49) (Qj 4 (Qn 47) (Qn 48)),Qa (Qv 50) (Qf 4 true (Qn 49)),Qa (Qv 51) (Qj 4 (Qn 37) (Qn 38)),Qa none (Ql 4 (Qn 51) (Qn 46)),Qa (Qv 52) (Qj 4 (Qn 39) (Qn 41)),Qa none (Ql 4 (Qn 52) (Qn 50))]
def Ylm:MC:=.reg true Xxc
def Xxd:List MO:=[Qa (Qv 35) (Qd (Qn 9)),Qa (Qv 36) (Qe Qt Go.BinOp.sub (Qn 35) (Qo (Qp (Qq (Qr Qu 1))))),Qa (Qv 9) (Qd (Qn 36))]
def Yln:MC:=.r0 Xxd
def Ylo:MC:=.seq Y79 (.blk 2 (.loop (.seq (.seq Y8a (.cond (Qn 34) .skip (MC.exit 2))) (.seq (.blk 3 Ylm) Yln))))
def Xxe:List MO:=[Qa (Qv 15) (Qd (Qn 8)),Qa (Qv 16) (Qe Qt Go.BinOp.add (Qn 15) (Qo (Qp (Qq (Qr Qu 1))))),Qa (Qv 8) (Qd (Qn 16))]
def Ylp:MC:=.r0 Xxe
def Xxf:MC:=.seq Y77 (.blk 0 (.loop (.seq (.seq Y78 (.cond (Qn 14) .skip (MC.exit 0))) (.seq (.blk 1 Ylo) Ylp))))
attribute [go_sem] X9m X9n X9o X9p Xxc Xxd Xxe
theorem Wrl:KK QP 140 f140 [] Xxf [] 53:=by refine⟨func140,?_,?_,?_,?_⟩<;>kernel_rfl
theorem Y8b:Xaa QP 140=true:=by kernel_rfl
theorem Ylq (h:GT QP gp [] pre R 53 Xxf args):Tri QP gp 140 args pre R:=Wrl.t h
def X9q:List MO:=[Qa (Qv 2) (Qd (Qo (Qp (Qq (Qs false)))))]
def Y8c:MC:=.r0 X9q
def X9r:List MO:=[Qa (Qv 3) (Qd (Qn 0)),Qa (Qv 4) (Qd (Qn 0)),Qa (Qv 5) (Qe Qt Go.BinOp.neq (Qn 3) (Qn 4)),Qa (Qv 2) (Qd (Qn 5))]
def Y8d:MC:=.r0 X9r
def X9s:MC:=.seq Y8c (.seq Y8d .ret)
attribute [go_sem] X9q X9r
theorem Wrm:KK QP 142 f142 [] X9s [(RV.t 2)] 6:=by refine⟨func142,?_,?_,?_,?_⟩<;>kernel_rfl
theorem Y8e:Xaa QP 142=true:=by kernel_rfl
theorem Y8f (h:GI QP gp [(RV.t 2)] res 6 X9s args):Xao QP gp 142 args res:=Wrm.i Y8e h
def X9t:List MO:=[Qa (Qv 2) (Qd (Qo (Qp (Qq (Qs false)))))]
def Y8g:MC:=.r0 X9t
def X9u:List MO:=[Qa (Qv 3) (Qd (Qn 0)),Qa (Qv 4) (Qd (Qn 0)),Qa (Qv 5) (Qe Leaf.s Go.BinOp.neq (Qn 3) (Qn 4)),Qa (Qv 2) (Qd (Qn 5))]
def Y8h:MC:=.r0 X9u
def X9v:MC:=.seq Y8g (.seq Y8h .ret)
attribute [go_sem] X9t X9u
theorem Wrn:KK QP 143 f143 [] X9v [(RV.t 2)] 6:=by refine⟨func143,?_,?_,?_,?_⟩<;>kernel_rfl
theorem Y8i:Xaa QP 143=true:=by kernel_rfl
theorem Y8j (h:GI QP gp [(RV.t 2)] res 6 X9v args):Xao QP gp 143 args res:=Wrn.i Y8i h
def X9w:List MO:=[Qa (Qv 1) (MOp.ibox (Qn 0)),Qa (Qv 2) (Qd (Qo (Qp (Qq (Qs false)))))]
def Y8k:MC:=.r0 X9w
def X9x:List MO:=[Qa (Qv 3) (Qf 3 true (Qn 1)),Qa (Qv 4) (Qh 18 [(Qn 3)]),Qa (Qv 5) (MOp.not (Qn 4)),Qa (Qv 2) (Qd (Qn 5))]
def Y8l:MC:=.r0 X9x
def X9y:MC:=.seq Y8k (.seq Y8l .ret)
attribute [go_sem] X9w X9x
theorem Wro:KK QP 146 f146 [1] X9y [(RV.t 2)] 6:=by refine⟨func146,?_,?_,?_,?_⟩<;>kernel_rfl
theorem Y8m:Xaa QP 146=true:=by kernel_rfl
theorem Y8n (h:GI QP gp [(RV.t 2)] res 6 X9y args):Xao QP gp 146 args res:=Wro.i Y8m h
def X9z:List MO:=[Qa (Qv 4) (Qd (Qo (Qp (Qq (Qr Qu 0)))))]
def Y8o:MC:=.r0 X9z
def X90:List MO:=[Qa (Qv 6) (Qd (Qn 0)),Qa (Qv 7) (Qk Qt (Qn 6)),Qa (Qv 8) (Qd (Qo (Qp (Qq (Qr Qu 0)))))]
def Y8p:MC:=.r0 X90
def X91:List MO:=[Qa (Qv 9) (Qe Qt Go.BinOp.lss (Qn 8) (Qn 7))]
def Y8q:MC:=.r0 X91
def X92:List MO:=[Qa (Qv 10) (Qd (Qn 8)),Qa (Qv 5) (Qd (Qn 10))]
def Y8r:MC:=.r0 X92
def X93:List MO:=[Qa (Qv 11) (Qd (Qn 1)),Qa (Qv 12) (Qd (Qn 0)),Qa (Qv 13) (Qd (Qn 5)),Qa (Qv 14) (Qj 1 (Qn 12) (Qn 13)),Qa (Qv 15) (Qf 1 false (Qn 14)),Qa (Qv 16) (Qe Leaf.b Go.BinOp.eql (Qn 11) (Qn 15))]
def Y8s:MC:=.r0 X93
def X94:List MO:=[Qa (Qv 17) (Qd (Qn 5)),Qa (Qv 4) (Qd (Qn 17))]
def Y8t:MC:=.r0 X94
def Xxg:List MO:=[Qa (Qv 18) (Qe Qt Go.BinOp.add (Qn 8) (Qo (Qp (Qq (Qr Qu 1))))),Qa (Qv 8) (Qd (Qn 18))]
def Ylr:MC:=.r0 Xxg
def Yls:MC:=.seq (.blk 1 (.seq Y8r (.seq Y8s (.cond (Qn 16) (.seq Y8t .ret) .skip)))) Ylr
def Xxh:List MO:=[Qa (Qv 4) (Qd (Qo (Qp (Qq (Qr Qu (-1))))))]
def Ylt:MC:=.r0 Xxh
def Ylu:MC:=.seq (.seq Y8p (.blk 0 (.loop (.seq Y8q (.seq (.cond (Qn 9) .skip (MC.exit 0)) Yls))))) (.seq Ylt .ret)
def Xxi:MC:=.seq Y8o Ylu
attribute [go_sem] X9z X90 X91 X92 X93 X94 Xxg Xxh
theorem Wrp:KK QP 147 f147 [] Xxi [(RV.t 4)] 19:=by refine⟨func147,?_,?_,?_,?_⟩<;>kernel_rfl
theorem Y8u:Xaa QP 147=true:=by kernel_rfl
theorem Y8v (h:GI QP gp [(RV.t 4)] res 19 Xxi args):Xao QP gp 147 args res:=Wrp.i Y8u h
def X95:List MO:=[Qa (Qv 4) (Qd (Qo (Qp (Qq (Qr Qu 0)))))]
def Y8w:MC:=.r0 X95
def X96:List MO:=[Qa (Qv 6) (Qd (Qn 0)),Qa (Qv 7) (Qk Qt (Qn 6)),Qa (Qv 8) (Qd (Qo (Qp (Qq (Qr Qu 0)))))]
def Y8x:MC:=.r0 X96
def X97:List MO:=[Qa (Qv 9) (Qe Qt Go.BinOp.lss (Qn 8) (Qn 7))]
def Y8y:MC:=.r0 X97
def X98:List MO:=[Qa (Qv 10) (Qd (Qn 8)),Qa (Qv 5) (Qd (Qn 10))]
def Y8z:MC:=.r0 X98
def X99:List MO:=[Qa (Qv 11) (Qd (Qn 1)),Qa (Qv 12) (Qd (Qn 0)),Qa (Qv 13) (Qd (Qn 5)),Qa (Qv 14) (Qj 1 (Qn 12) (Qn 13)),Qa (Qv 15) (Qf 1 false (Qn 14)),Qa (Qv 16) (MOp.callv (Qn 11) [(Qn 15)])]
def Y80:MC:=.r0 X99
def Yaa:List MO:=[Qa (Qv 17) (Qd (Qn 5)),Qa (Qv 4) (Qd (Qn 17))]
def Y81:MC:=.r0 Yaa
def Xxj:List MO:=[Qa (Qv 18) (Qe Qt Go.BinOp.add (Qn 8) (Qo (Qp (Qq (Qr Qu 1))))),Qa (Qv 8) (Qd (Qn 18))]
def Ylv:MC:=.r0 Xxj
def Ylw:MC:=.seq (.blk 1 (.seq Y8z (.seq Y80 (.cond (Qn 16) (.seq Y81 .ret) .skip)))) Ylv
def Xxk:List MO:=[Qa (Qv 4) (Qd (Qo (Qp (Qq (Qr Qu (-1))))))]
def Ylx:MC:=.r0 Xxk
def Yly:MC:=.seq (.seq Y8x (.blk 0 (.loop (.seq Y8y (.seq (.cond (Qn 9) .skip (MC.exit 0)) Ylw))))) (.seq Ylx .ret)
def Xxl:MC:=.seq Y8w Yly
attribute [go_sem] X95 X96 X97 X98 X99 Yaa Xxj Xxk
theorem Wrq:KK QP 148 f148 [] Xxl [(RV.t 4)] 19:=by refine⟨func148,?_,?_,?_,?_⟩<;>kernel_rfl
theorem Y82:Xaa QP 148=true:=by kernel_rfl
theorem Y83 (h:GI QP gp [(RV.t 4)] res 19 Xxl args):Xao QP gp 148 args res:=Wrq.i Y82 h
def Yab:List MO:=[Qa (Qv 4) (Qd (Qo (Qp (Qq (Qr Qu 0)))))]
def Y84:MC:=.r0 Yab
def Yac:List MO:=[Qa (Qv 6) (Qd (Qn 0)),Qa (Qv 7) (Qk Qt (Qn 6)),Qa (Qv 8) (Qd (Qo (Qp (Qq (Qr Qu 0)))))]
def Y85:MC:=.r0 Yac
def Yad:List MO:=[Qa (Qv 9) (Qe Qt Go.BinOp.lss (Qn 8) (Qn 7))]
def Y86:MC:=.r0 Yad
def Yae:List MO:=[Qa (Qv 10) (Qd (Qn 8)),Qa (Qv 5) (Qd (Qn 10))]
def Y87:MC:=.r0 Yae
def Yaf:List MO:=[Qa (Qv 11) (Qd (Qn 1)),Qa (Qv 12) (Qd (Qn 0)),Qa (Qv 13) (Qd (Qn 5)),Qa (Qv 14) (Qj 3 (Qn 12) (Qn 13)),Qa (Qv 15) (Qf 3 true (Qn 14)),Qa (Qv 16) (MOp.callv (Qn 11) [(Qn 15)])]
def Y88:MC:=.r0 Yaf
def Yag:List MO:=[Qa (Qv 17) (Qd (Qn 5)),Qa (Qv 4) (Qd (Qn 17))]
def Y89:MC:=.r0 Yag
def Xxm:List MO:=[Qa (Qv 18) (Qe Qt Go.BinOp.add (Qn 8) (Qo (Qp (Qq (Qr Qu 1))))),Qa (Qv 8) (Qd (Qn 18))]
def Ylz:MC:=.r0 Xxm
def Yl0:MC:=.seq (.blk 1 (.seq Y87 (.seq Y88 (.cond (Qn 16) (.seq Y89 .ret) .skip)))) Ylz
def Xxn:List MO:=[Qa (Qv 4) (Qd (Qo (Qp (Qq (Qr Qu (-1))))))]
def Yl1:MC:=.r0 Xxn
def Yl2:MC:=.seq (.seq Y85 (.blk 0 (.loop (.seq Y86 (.seq (.cond (Qn 9) .skip (MC.exit 0)) Yl0))))) (.seq Yl1 .ret)
def Xxo:MC:=.seq Y84 Yl2
attribute [go_sem] Yab Yac Yad Yae Yaf Yag Xxm Xxn
theorem Wrr:KK QP 149 f149 [] Xxo [(RV.t 4)] 19:=by refine⟨func149,?_,?_,?_,?_⟩<;>kernel_rfl
theorem Y9a:Xaa QP 149=true:=by kernel_rfl
theorem Y9b (h:GI QP gp [(RV.t 4)] res 19 Xxo args):Xao QP gp 149 args res:=Wrr.i Y9a h
end Go.Fw.L07
