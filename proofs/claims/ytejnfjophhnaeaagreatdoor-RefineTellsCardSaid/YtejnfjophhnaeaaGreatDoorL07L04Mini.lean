/- Small codes. -/
import Derived.Test.YtejnfjophhnaeaaGreatDoorFd
import Derived.Test.YtejnfjophhnaeaaGreatDoorProg
set_option linter.all false
namespace Go.Fw.L07
open Go Go.Fw
open Go.Proofs.Tryz renaming prog->QP
open Go.Proofs.Tryz (f100 f101 f126 f128 f129 f130 f131 f146 f148 f149 f160 f162 f163 f164 f165 f166 f167 f177 f178 f180 f187 f98 func100 func101 func126 func128 func129 func130 func131 func146 func148 func149 func160 func162 func163 func164 func165 func166 func167 func177 func178 func180 func187 func98)
open Go.Fw.MO renaming op->Qa,chk->Qb,opx->Qc
open Go.Fw.MOp renaming mv->Qd,bin->Qe,load->Qf,fad->Qg,call->Qh,ext->Qi,iad->Qj,len->Qk,store->Ql,pick->Qm
open Go.Fw.Opd renaming t->Qn,c->Qo
open Go.Fw.V renaming one->Qp
open Go.Fw.A renaming d->Qq
open Go.Fw.D renaming int->Qr,bool->Qs
open Go.Fw.Leaf renaming i->Qt
open Go.IntKind renaming i64->Qu
open Option renaming some->Qv
variable {gp:Xag} {args:List V} {res:V} {pre:List Ch} {R:V->List Ch->Prop}
def Yr7:List MO:=[Qa (Qv 1) (MOp.ibox (Qn 0)),Qa (Qv 2) (Qd (Qo (Qp (Qq (Qs false)))))]
def Wlv:MC:=.r0 Yr7
def Yr8:List MO:=[Qa (Qv 3) (Qg 0 (Qn 1)),Qa (Qv 4) (Qf 1 false (Qn 3))]
def Wlw:MC:=.r0 Yr8
def Yr9:List MO:=[Qa (Qv 6) (Qe Qt Go.BinOp.eql (Qn 4) (Qo (Qp (Qq (Qr Qu 0))))),Qa (Qv 5) (Qd (Qn 6))]
def Wlx:MC:=.r0 Yr9
def Ysa:List MO:=[Qa (Qv 7) (Qg 1 (Qn 1)),Qa (Qv 8) (Qf 1 false (Qn 7)),Qa (Qv 9) (Qe Qt Go.BinOp.eql (Qn 8) (Qo (Qp (Qq (Qr Qu 0))))),Qa (Qv 10) (Qd (Qn 9)),Qb 10 true (Qv 11),Qa (Qv 11) (Qg 2 (Qn 1)),Qb 10 true (Qv 12),Qa (Qv 12) (Qf 1 false (Qn 11)),Qb 10 true (Qv 13),Qa (Qv 13) (Qe Leaf.s Go.BinOp.eql (Qn 12) (Qo (Qp (Qq (D.str (ByteArray.mk #[])))))),Qa (Qv 14) (Qm (Qn 10) (Qn 13) (Qo (Qp (Qq (Qs false))))),Qa (Qv 2) (Qd (Qn 14))]
def Wly:MC:=.r0 Ysa
def Ysb:List MO:=[Qa (Qv 16) (Qe Qt Go.BinOp.eql (Qn 4) (Qo (Qp (Qq (Qr Qu 1))))),Qa (Qv 15) (Qd (Qn 16))]
def Wlz:MC:=.r0 Ysb
def Ysc:List MO:=[Qa (Qv 17) (Qg 1 (Qn 1)),Qa (Qv 18) (Qf 1 false (Qn 17)),Qa (Qv 19) (Qe Qt Go.BinOp.eql (Qn 18) (Qo (Qp (Qq (Qr Qu 0))))),Qa (Qv 20) (Qd (Qn 19)),Qb 20 false (Qv 21),Qa (Qv 21) (Qg 1 (Qn 1)),Qb 20 false (Qv 22),Qa (Qv 22) (Qf 1 false (Qn 21)),Qb 20 false (Qv 23),Qa (Qv 23) (Qe Qt Go.BinOp.eql (Qn 22) (Qo (Qp (Qq (Qr Qu 1))))),Qa (Qv 24) (Qm (Qn 20) (Qo (Qp (Qq (Qs true)))) (Qn 23)),Qa (Qv 25) (Qd (Qn 24)),Qb 25 true (Qv 26),Qa (Qv 26) (Qg 2 (Qn 1)),Qb 25 true (Qv 27),Qa (Qv 27) (Qf 1 false (Qn 26)),Qb 25 true (Qv 28),Qa (Qv 28) (Qe Leaf.s Go.BinOp.eql (Qn 27) (Qo (Qp (Qq (D.str (ByteArray.mk #[])))))),Qa (Qv 29) (Qm (Qn 25) (Qn 28) (Qo (Qp (Qq (Qs false))))),Qa (Qv 2) (Qd (Qn 29))]
def Wl0:MC:=.r0 Ysc
def X86:List MO:=[Qa (Qv 31) (Qe Qt Go.BinOp.eql (Qn 4) (Qo (Qp (Qq (Qr Qu 2))))),Qa (Qv 30) (Qd (Qn 31))]
def Y5n:MC:=.r0 X86
def X87:List MO:=[Qa (Qv 32) (Qg 1 (Qn 1)),Qa (Qv 33) (Qf 1 false (Qn 32)),Qa (Qv 34) (Qe Qt Go.BinOp.geq (Qn 33) (Qo (Qp (Qq (Qr Qu (-999999999999999)))))),Qa (Qv 35) (Qd (Qn 34)),Qb 35 true (Qv 36),Qa (Qv 36) (Qg 1 (Qn 1)),Qb 35 true (Qv 37),Qa (Qv 37) (Qf 1 false (Qn 36)),Qb 35 true (Qv 38),Qa (Qv 38) (Qe Qt Go.BinOp.leq (Qn 37) (Qo (Qp (Qq (Qr Qu 999999999999999))))),Qa (Qv 39) (Qm (Qn 35) (Qn 38) (Qo (Qp (Qq (Qs false))))),Qa (Qv 40) (Qd (Qn 39)),Qb 40 true (Qv 41),Qa (Qv 41) (Qg 2 (Qn 1)),Qb 40 true (Qv 42),Qa (Qv 42) (Qf 1 false (Qn 41)),Qb 40 true (Qv 43),Qa (Qv 43) (Qe Leaf.s Go.BinOp.eql (Qn 42) (Qo (Qp (Qq (D.str (ByteArray.mk #[])))))),Qa (Qv 44) (Qm (Qn 40) (Qn 43) (Qo (Qp (Qq (Qs false))))),Qa (Qv 2) (Qd (Qn 44))]
def Y5o:MC:=.r0 X87
def X88:List MO:=[Qa (Qv 46) (Qe Qt Go.BinOp.eql (Qn 4) (Qo (Qp (Qq (Qr Qu 3))))),Qa (Qv 45) (Qd (Qn 46))]
def Y5p:MC:=.r0 X88
def X89:List MO:=[Qa (Qv 47) (Qg 1 (Qn 1)),Qa (Qv 48) (Qf 1 false (Qn 47)),Qa (Qv 49) (Qe Qt Go.BinOp.eql (Qn 48) (Qo (Qp (Qq (Qr Qu 0))))),Qa (Qv 50) (Qd (Qn 49)),Qb 50 true (Qv 51),Qa (Qv 51) (Qg 2 (Qn 1)),Qb 50 true (Qv 52),Qa (Qv 52) (Qf 1 false (Qn 51)),Qb 50 true (Qv 53),Qa (Qv 53) (Qh 126 [(Qn 52)]),Qa (Qv 54) (Qm (Qn 50) (Qn 53) (Qo (Qp (Qq (Qs false))))),Qa (Qv 2) (Qd (Qn 54))]
def Y5q:MC:=.r0 X89
def Y5r:MC:=.seq Y5n (.cond (Qn 30) (.seq Y5o .ret) (.seq Y5p (.cond (Qn 45) (.seq Y5q .ret) .skip)))
def Y5s:MC:=.cond (Qn 5) (.seq Wly .ret) (.seq Wlz (.cond (Qn 15) (.seq Wl0 .ret) Y5r))
def X9a:List MO:=[Qa (Qv 2) (Qd (Qo (Qp (Qq (Qs false)))))]
def Y5t:MC:=.r0 X9a
def Y5u:MC:=.seq (.seq Wlw (.blk 0 (.seq Wlx Y5s))) (.seq Y5t .ret)
def X9b:MC:=.seq Wlv Y5u
attribute [go_sem] Yr7 Yr8 Yr9 Ysa Ysb Ysc X86 X87 X88 X89 X9a
theorem Wtd:KK QP 98 f98 [1] X9b [(RV.t 2)] 55:=by refine⟨func98,?_,?_,?_,?_⟩<;>kernel_rfl
theorem Wl1:Xaa QP 98=true:=by kernel_rfl
theorem Wl2 (h:GI QP gp [(RV.t 2)] res 55 X9b args):Xam QP gp 98 args res:=Wtd.i Wl1 h
def X9c:List MO:=[Qa (Qv 1) (MOp.ibox (Qn 0)),Qa (Qv 2) (Qd (Qo (Qp (Qq (D.str (ByteArray.mk #[])))))),Qa (Qv 3) (Qd (Qo (Qp (Qq (Qr Qu 0)))))]
def Y5v:MC:=.r0 X9c
def X9d:List MO:=[Qa (Qv 6) (Qf 3 true (Qn 1)),Qa (Qv 7) (Qh 127 [(Qn 6)]),Qa (Qv 8) (MOp.not (Qn 7))]
def Y5w:MC:=.r0 X9d
def X9e:List MO:=[Qa (Qv 2) (Qd (Qo (Qp (Qq (D.str (ByteArray.mk #[])))))),Qa (Qv 3) (Qd (Qo (Qp (Qq (Qr Qu 60)))))]
def Y5x:MC:=.r0 X9e
def X9f:List MO:=[Qa (Qv 9) (Qf 3 true (Qn 1)),Qa (Qv 10) (MOp.build [(Qr Qu 0),(Qr Qu 0),(D.str (ByteArray.mk #[]))] [(0,(3,(Qn 9)))]),Qa (Qv 4) (MOp.alloc [(Qr Qu 0),(Qr Qu 0),(D.str (ByteArray.mk #[]))]),Qa none (Ql 3 (Qn 4) (Qn 10))]
def Y5y:MC:=.r0 X9f
def X9g:List MO:=[Qa (Qv 11) (Qf 3 true (Qn 4)),Qa (Qv 12) (MOp.mkMv (Go.Fn.func 128) (Qn 11)),Qa (Qv 13) (Qf 3 true (Qn 4)),Qa (Qv 14) (MOp.mkMv (Go.Fn.func 129) (Qn 13)),Qa (Qv 15) (Qf 3 true (Qn 4)),Qa (Qv 16) (MOp.mkMv (Go.Fn.func 130) (Qn 15)),Qa (Qv 17) (Qf 3 true (Qn 4)),Qa (Qv 18) (MOp.mkMv (Go.Fn.func 131) (Qn 17)),Qa (Qv 19) (MOp.build [D.nilF,D.nilF,D.nilF,D.nilF] [(0,(1,(Qn 12))),(1,(1,(Qn 14))),(2,(1,(Qn 16))),(3,(1,(Qn 18)))]),Qa (Qv 5) (MOp.alloc [D.nilF,D.nilF,D.nilF,D.nilF]),Qa none (Ql 4 (Qn 5) (Qn 19))]
def Y5z:MC:=.r0 X9g
def Xwz:List MO:=[Qa (Qv 20) (Qg 0 (Qn 1)),Qa (Qv 21) (Qf 1 false (Qn 20)),Qa (Qv 22) (MOp.iadA 4 1 (Qn 5) (Qn 21)),Qa (Qv 23) (Qf 1 false (Qn 22)),Qa (Qv 24) (MOp.callv (Qn 23) []),Qa (Qv 2) (Qd (Qn 24)),Qa (Qv 3) (Qd (Qo (Qp (Qq (Qr Qu 0)))))]
def Ylt:MC:=.r0 Xwz
def Ylu:MC:=.seq (.seq Y5w (.cond (Qn 8) (.seq Y5x .ret) .skip)) (.seq Y5y (.seq Y5z (.seq Ylt .ret)))
def Xw0:MC:=.seq Y5v Ylu
attribute [go_sem] X9c X9d X9e X9f X9g Xwz
theorem Wl3:KK QP 100 f100 [1] Xw0 [(RV.t 2),(RV.t 3)] 25:=by refine⟨func100,?_,?_,?_,?_⟩<;>kernel_rfl
theorem Y50:Xaa QP 100=true:=by kernel_rfl
theorem Y51 (h:GI QP gp [(RV.t 2),(RV.t 3)] res 25 Xw0 args):Xam QP gp 100 args res:=Wl3.i Y50 h
def X9h:List MO:=[Qa (Qv 4) (Qd (Qo (Qp (Qq (Qr Qu 0))))),Qa (Qv 5) (Qd (Qo (Qp (Qq D.nilI))))]
def Y52:MC:=.r0 X9h
def X9i:List MO:=[Qa (Qv 6) (Qd (Qn 0)),Qa (Qv 7) (Qh 132 [(Qn 6)])]
def Y53:MC:=.r0 X9i
def X9j:List MO:=[Qa (Qv 8) (Qd (Qn 0)),Qa (Qv 9) (Qd (Qn 0)),Qa (Qv 10) (MOp.nck (Qn 9)),Qa (Qv 11) (Qg 1 (Qn 10)),Qa (Qv 12) (Qf 1 false (Qn 11)),Qa (Qv 13) (Qd (Qn 1)),Qa (Qv 14) (MOp.appS 5 (Qn 12) (Qn 13)),Qa (Qv 15) (MOp.nck (Qn 8)),Qa (Qv 16) (Qg 1 (Qn 15)),Qa none (Ql 1 (Qn 16) (Qn 14))]
def Y54:MC:=.r0 X9j
def X9k:List MO:=[Qa (Qv 17) (Qd (Qn 1)),Qa (Qv 18) (Qk Leaf.s (Qn 17)),Qa (Qv 4) (Qd (Qn 18)),Qa (Qv 5) (Qd (Qo (Qp (Qq D.nilI))))]
def Y55:MC:=.r0 X9k
def X9l:MC:=.seq Y52 (.seq Y53 (.seq Y54 (.seq Y55 .ret)))
attribute [go_sem] X9h X9i X9j X9k
theorem Wl4:KK QP 101 f101 [] X9l [(RV.t 4),(RV.t 5)] 19:=by refine⟨func101,?_,?_,?_,?_⟩<;>kernel_rfl
theorem X9m:Xaa QP 101=true:=by kernel_rfl
theorem Ylv (h:GT QP gp [(RV.t 4),(RV.t 5)] pre R 19 X9l args):Tri QP gp 101 args pre R:=Wl4.t h
-- f102: trC none
def X9n:List MO:=[Qa (Qv 2) (Qd (Qo (Qp (Qq (Qs false)))))]
def Y56:MC:=.r0 X9n
def X9o:List MO:=[Qa (Qv 6) (Qd (Qn 0)),Qa (Qv 7) (Qh 146 [(Qn 6)]),Qa (Qv 5) (Qd (Qn 7)),Qa (Qv 8) (Qi (Qn 5) 0),Qa (Qv 9) (Qi (Qn 5) 1),Qa (Qv 3) (Qd (Qn 8)),Qa (Qv 4) (Qd (Qn 9))]
def Y57:MC:=.r0 X9o
def X9p:List MO:=[Qa (Qv 10) (Qd (Qn 4)),Qa (Qv 11) (Qe Qt Go.BinOp.eql (Qn 10) (Qo (Qp (Qq (Qr Qu 0))))),Qa (Qv 2) (Qd (Qn 11))]
def Y58:MC:=.r0 X9p
def X9q:MC:=.seq Y56 (.seq Y57 (.seq Y58 .ret))
attribute [go_sem] X9n X9o X9p
theorem Wl5:KK QP 126 f126 [] X9q [(RV.t 2)] 12:=by refine⟨func126,?_,?_,?_,?_⟩<;>kernel_rfl
theorem Y59:Xaa QP 126=true:=by kernel_rfl
theorem Y6a (h:GI QP gp [(RV.t 2)] res 12 X9q args):Xam QP gp 126 args res:=Wl5.i Y59 h
def X9r:List MO:=[Qa (Qv 1) (MOp.ibox (Qn 0)),Qa (Qv 2) (Qd (Qo (Qp (Qq (D.str (ByteArray.mk #[]))))))]
def Y6b:MC:=.r0 X9r
def X9s:List MO:=[Qa (Qv 2) (Qd (Qo (Qp (Qq (D.str (ByteArray.mk #[110,117,108,108]))))))]
def Y6c:MC:=.r0 X9s
def X9t:MC:=.seq Y6b (.seq Y6c .ret)
attribute [go_sem] X9r X9s
theorem Wl6:KK QP 128 f128 [1] X9t [(RV.t 2)] 3:=by refine⟨func128,?_,?_,?_,?_⟩<;>kernel_rfl
theorem Y6d:Xaa QP 128=true:=by kernel_rfl
theorem Y6e (h:GI QP gp [(RV.t 2)] res 3 X9t args):Xam QP gp 128 args res:=Wl6.i Y6d h
def X9u:List MO:=[Qa (Qv 1) (MOp.ibox (Qn 0)),Qa (Qv 2) (Qd (Qo (Qp (Qq (D.str (ByteArray.mk #[]))))))]
def Y6f:MC:=.r0 X9u
def X9v:List MO:=[Qa (Qv 3) (Qg 0 (Qn 1)),Qa (Qv 4) (Qg 1 (Qn 3)),Qa (Qv 5) (Qf 1 false (Qn 4)),Qa (Qv 6) (Qe Qt Go.BinOp.eql (Qn 5) (Qo (Qp (Qq (Qr Qu 1))))),Qa (Qv 7) (Qh 148 [(Qn 6)]),Qa (Qv 2) (Qd (Qn 7))]
def Y6g:MC:=.r0 X9v
def X9w:MC:=.seq Y6f (.seq Y6g .ret)
attribute [go_sem] X9u X9v
theorem Wl7:KK QP 129 f129 [1] X9w [(RV.t 2)] 8:=by refine⟨func129,?_,?_,?_,?_⟩<;>kernel_rfl
theorem Y6h:Xaa QP 129=true:=by kernel_rfl
theorem Y6i (h:GI QP gp [(RV.t 2)] res 8 X9w args):Xam QP gp 129 args res:=Wl7.i Y6h h
def X9x:List MO:=[Qa (Qv 1) (MOp.ibox (Qn 0)),Qa (Qv 2) (Qd (Qo (Qp (Qq (D.str (ByteArray.mk #[]))))))]
def Y6j:MC:=.r0 X9x
def X9y:List MO:=[Qa (Qv 3) (Qg 0 (Qn 1)),Qa (Qv 4) (Qg 1 (Qn 3)),Qa (Qv 5) (Qf 1 false (Qn 4)),Qa (Qv 6) (Qh 103 [(Qn 5)]),Qa (Qv 2) (Qd (Qn 6))]
def Y6k:MC:=.r0 X9y
def X9z:MC:=.seq Y6j (.seq Y6k .ret)
attribute [go_sem] X9x X9y
theorem Wl8:KK QP 130 f130 [1] X9z [(RV.t 2)] 7:=by refine⟨func130,?_,?_,?_,?_⟩<;>kernel_rfl
theorem Y6l:Xaa QP 130=true:=by kernel_rfl
theorem Y6m (h:GI QP gp [(RV.t 2)] res 7 X9z args):Xam QP gp 130 args res:=Wl8.i Y6l h
def X90:List MO:=[Qa (Qv 1) (MOp.ibox (Qn 0)),Qa (Qv 2) (Qd (Qo (Qp (Qq (D.str (ByteArray.mk #[]))))))]
def Y6n:MC:=.r0 X90
def X91:List MO:=[Qa (Qv 6) (Qg 0 (Qn 1)),Qa (Qv 7) (Qg 2 (Qn 6)),Qa (Qv 8) (Qf 1 false (Qn 7)),Qa (Qv 9) (Qh 149 [(Qn 8)]),Qa (Qv 5) (Qd (Qn 9)),Qa (Qv 10) (Qi (Qn 5) 0),Qa (Qv 11) (Qi (Qn 5) 1),Qa (Qv 3) (Qd (Qn 10)),Qa (Qv 4) (Qd (Qn 11))]
def Y6o:MC:=.r0 X91
def X92:List MO:=[Qa (Qv 12) (Qd (Qn 3)),Qa (Qv 2) (Qd (Qn 12))]
def Y6p:MC:=.r0 X92
def X93:MC:=.seq Y6n (.seq Y6o (.seq Y6p .ret))
attribute [go_sem] X90 X91 X92
theorem Wl9:KK QP 131 f131 [1] X93 [(RV.t 2)] 13:=by refine⟨func131,?_,?_,?_,?_⟩<;>kernel_rfl
theorem Y6q:Xaa QP 131=true:=by kernel_rfl
theorem Y6r (h:GI QP gp [(RV.t 2)] res 13 X93 args):Xam QP gp 131 args res:=Wl9.i Y6q h
def X94:List MO:=[Qa (Qv 2) (Qd (Qo (Qp A.nil))),Qa (Qv 3) (Qd (Qo (Qp (Qq (Qr Qu 0)))))]
def Y6s:MC:=.r0 X94
def X95:List MO:=[Qa (Qv 4) (Qd (Qo (Qp A.nil)))]
def Y6t:MC:=.r0 X95
def X96:List MO:=[Qa (Qv 5) (Qd (Qo (Qp (Qq (Qr Qu 0)))))]
def Y6u:MC:=.r0 X96
def X97:List MO:=[Qa (Qv 8) (Qd (Qn 5)),Qa (Qv 9) (Qd (Qn 0)),Qa (Qv 10) (Qk Leaf.s (Qn 9)),Qa (Qv 11) (Qe Qt Go.BinOp.lss (Qn 8) (Qn 10))]
def Y6v:MC:=.r0 X97
def X98:List MO:=[Qa (Qv 13) (Qd (Qn 0)),Qa (Qv 14) (Qd (Qn 5)),Qa (Qv 15) (Qh 160 [(Qn 13),(Qn 14)]),Qa (Qv 12) (Qd (Qn 15)),Qa (Qv 16) (Qi (Qn 12) 0),Qa (Qv 17) (Qi (Qn 12) 1),Qa (Qv 6) (Qd (Qn 16)),Qa (Qv 7) (Qd (Qn 17))]
def Y6w:MC:=.r0 X98
def X99:List MO:=[Qa (Qv 18) (Qd (Qn 7)),Qa (Qv 19) (Qe Qt Go.BinOp.eql (Qn 18) (Qo (Qp (Qq (Qr Qu 0)))))]
def Y6x:MC:=.r0 X99
def Xw1:List MO:=[Qa (Qv 2) (Qd (Qo (Qp A.nil))),Qa (Qv 3) (Qd (Qo (Qp (Qq (Qr Qu 40)))))]
def Ylw:MC:=.r0 Xw1
def Xw2:List MO:=[Qa (Qv 20) (Qd (Qn 4)),Qa (Qv 21) (Qd (Qn 6)),Qa (Qv 22) (MOp.bslice 1 [(Qr Qu 0)] 1 [(0,(Qn 21))]),Qa (Qv 23) (MOp.app 3 1 8 (Qn 20) (Qn 22)),Qa (Qv 4) (Qd (Qn 23))]
def Ylx:MC:=.r0 Xw2
def Xw3:List MO:=[Qa (Qv 24) (Qd (Qn 5)),Qa (Qv 25) (Qd (Qn 7)),Qa (Qv 26) (Qe Qt Go.BinOp.add (Qn 24) (Qn 25)),Qa (Qv 5) (Qd (Qn 26))]
def Yly:MC:=.r0 Xw3
def Ylz:MC:=.seq (.seq Y6x (.cond (Qn 19) (.seq Ylw .ret) .skip)) (.seq Ylx Yly)
def Xdn:List MO:=[Qa (Qv 27) (Qd (Qn 4)),Qa (Qv 2) (Qd (Qn 27)),Qa (Qv 3) (Qd (Qo (Qp (Qq (Qr Qu 0)))))]
def Yl0:MC:=.r0 Xdn
def Yl1:MC:=.seq (.blk 0 (.loop (.seq (.seq Y6v (.cond (Qn 11) .skip (MC.exit 0))) (.blk 1 (.seq Y6w Ylz))))) (.seq Yl0 .ret)
def Xw4:MC:=.seq Y6s (.seq Y6t (.seq Y6u Yl1))
attribute [go_sem] X94 X95 X96 X97 X98 X99 Xw1 Xw2 Xw3
theorem Wma:KK QP 146 f146 [] Xw4 [(RV.t 2),(RV.t 3)] 28:=by refine⟨func146,?_,?_,?_,?_⟩<;>kernel_rfl
theorem Y6y:Xaa QP 146=true:=by kernel_rfl
theorem Y6z (h:GI QP gp [(RV.t 2),(RV.t 3)] res 28 Xw4 args):Xam QP gp 146 args res:=Wma.i Y6y h
def Yaa:List MO:=[Qa (Qv 2) (Qd (Qo (Qp (Qq (D.str (ByteArray.mk #[]))))))]
def Y60:MC:=.r0 Yaa
def Yab:List MO:=[Qa (Qv 3) (Qd (Qn 0)),Qa (Qv 4) (Qh 162 [(Qn 3)]),Qa (Qv 2) (Qd (Qn 4))]
def Y61:MC:=.r0 Yab
def Yac:MC:=.seq Y60 (.seq Y61 .ret)
attribute [go_sem] Yaa Yab
theorem Wmb:KK QP 148 f148 [] Yac [(RV.t 2)] 5:=by refine⟨func148,?_,?_,?_,?_⟩<;>kernel_rfl
theorem Y62:Xaa QP 148=true:=by kernel_rfl
theorem Y63 (h:GI QP gp [(RV.t 2)] res 5 Yac args):Xam QP gp 148 args res:=Wmb.i Y62 h
def Yad:List MO:=[Qa (Qv 2) (Qd (Qo (Qp (Qq (D.str (ByteArray.mk #[])))))),Qa (Qv 3) (Qd (Qo (Qp (Qq (Qr Qu 0)))))]
def Y64:MC:=.r0 Yad
def Yae:List MO:=[Qa (Qv 10) (Qd (Qn 0)),Qa (Qv 11) (Qh 147 [(Qn 10)]),Qa (Qv 12) (MOp.not (Qn 11))]
def Y65:MC:=.r0 Yae
def Yaf:List MO:=[Qa (Qv 2) (Qd (Qo (Qp (Qq (D.str (ByteArray.mk #[])))))),Qa (Qv 3) (Qd (Qo (Qp (Qq (Qr Qu 40)))))]
def Y66:MC:=.r0 Yaf
def Yag:List MO:=[Qa (Qv 4) (MOp.bldN 169 5)]
def Y67:MC:=.r0 Yag
def Yah:List MO:=[Qa (Qv 13) (MOp.mkF (Go.Fn.func 163) [(Qn 4)]),Qa (Qv 5) (Qd (Qn 13))]
def Y68:MC:=.r0 Yah
def Xw5:List MO:=[Qa (Qv 14) (Qd (Qn 5)),Qa (Qv 15) (MOp.bslice 1 [(Qr Go.IntKind.i32 0)] 1 [(0,(Qo (Qp (Qq (Qr Go.IntKind.i32 34)))))]),Qa (Qv 16) (MOp.callv (Qn 14) [(Qn 15)])]
def Yl2:MC:=.r0 Xw5
def Xw6:List MO:=[Qa (Qv 17) (Qd (Qn 0)),Qa (Qv 18) (MOp.rng (Qn 17))]
def Yl3:MC:=.r0 Xw6
def Xw7:List MO:=[Qa (Qv 19) (MOp.nxt (Qn 18)),Qa (Qv 20) (Qi (Qn 19) 0)]
def Yl4:MC:=.r0 Xw7
def Xw8:List MO:=[Qa (Qv 21) (Qi (Qn 19) 2),Qa (Qv 7) (Qd (Qn 21))]
def Yl5:MC:=.r0 Xw8
def Xw9:List MO:=[Qa (Qv 23) (Qh 165 []),Qa (Qv 24) (Qd (Qn 7)),Qa (Qv 25) (MOp.lkp true (Qp (Qq (Qr Go.IntKind.i32 0))) false [Qt] (Qn 23) (Qn 24)),Qa (Qv 22) (Qd (Qn 25)),Qa (Qv 26) (Qi (Qn 22) 0),Qa (Qv 27) (Qi (Qn 22) 1),Qa (Qv 8) (Qd (Qn 26)),Qa (Qv 9) (Qd (Qn 27))]
def Yl6:MC:=.r0 Xw9
def Xxa:List MO:=[Qa (Qv 40) (Qd (Qn 9)),Qa (Qv 39) (Qd (Qn 40))]
def Yl7:MC:=.r0 Xxa
def Xxb:List MO:=[Qa (Qv 41) (Qd (Qn 5)),Qa (Qv 42) (Qd (Qn 8)),Qa (Qv 43) (MOp.bslice 1 [(Qr Go.IntKind.i32 0)] 2 [(0,(Qo (Qp (Qq (Qr Go.IntKind.i32 92))))),(1,(Qn 42))]),Qa (Qv 44) (MOp.callv (Qn 41) [(Qn 43)])]
def Yl8:MC:=.r0 Xxb
def Xxc:List MO:=[Qa (Qv 46) (Qd (Qn 7)),Qa (Qv 47) (MOp.bslice 1 [(Qr Go.IntKind.i32 0)] 2 [(0,(Qo (Qp (Qq (Qr Go.IntKind.i32 34))))),(1,(Qo (Qp (Qq (Qr Go.IntKind.i32 92)))))]),Qa (Qv 48) (Qh 166 [(Qn 46),(Qn 47)]),Qa (Qv 45) (Qd (Qn 48))]
def Yl9:MC:=.r0 Xxc
def Xxd:List MO:=[Qa (Qv 49) (Qd (Qn 5)),Qa (Qv 50) (Qd (Qn 7)),Qa (Qv 51) (MOp.bslice 1 [(Qr Go.IntKind.i32 0)] 2 [(0,(Qo (Qp (Qq (Qr Go.IntKind.i32 92))))),(1,(Qn 50))]),Qa (Qv 52) (MOp.callv (Qn 49) [(Qn 51)])]
def Yma:MC:=.r0 Xxd
def Xxe:List MO:=[Qa (Qv 54) (Qd (Qn 7)),Qa (Qv 55) (Qh 167 [(Qn 54)]),Qa (Qv 53) (Qd (Qn 55))]
def Ymb:MC:=.r0 Xxe
def Xxf:List MO:=[Qa (Qv 56) (Qd (Qn 5)),Qa (Qv 57) (Qd (Qn 7)),Qa (Qv 58) (MOp.bslice 1 [(Qr Go.IntKind.i32 0)] 1 [(0,(Qn 57))]),Qa (Qv 59) (MOp.callv (Qn 56) [(Qn 58)])]
def Ymc:MC:=.r0 Xxf
def Xxg:List MO:=[Qa (Qv 28) (Qd (Qn 5)),Qa (Qv 29) (Qd (Qn 7)),Qa (Qv 30) (Qe Qt Go.BinOp.shr (Qn 29) (Qo (Qp (Qq (Qr Go.IntKind.u64 4))))),Qa (Qv 31) (MOp.idxS (Qo (Qp (Qq (D.str (ByteArray.mk #[48,49,50,51,52,53,54,55,56,57,97,98,99,100,101,102]))))) (Qn 30)),Qa (Qv 32) (MOp.conv Go.IntKind.i32 (Qn 31)),Qa (Qv 33) (Qd (Qn 7)),Qa (Qv 34) (Qe Qt Go.BinOp.and (Qn 33) (Qo (Qp (Qq (Qr Go.IntKind.i32 15))))),Qa (Qv 35) (MOp.idxS (Qo (Qp (Qq (D.str (ByteArray.mk #[48,49,50,51,52,53,54,55,56,57,97,98,99,100,101,102]))))) (Qn 34)),Qa (Qv 36) (MOp.conv Go.IntKind.i32 (Qn 35)),Qa (Qv 37) (MOp.bslice 1 [(Qr Go.IntKind.i32 0)] 4 [(0,(Qo (Qp (Qq (Qr Go.IntKind.i32 92))))),(1,(Qo (Qp (Qq (Qr Go.IntKind.i32 120))))),(2,(Qn 32)),(3,(Qn 36))]),Qc (Qv 38) (MOp.callv (Qn 28) [(Qn 37)])]
def Ymd:MC:=.reg true Xxg
def Yme:MC:=.cond (Qn 45) Yma (.seq Ymb (.cond (Qn 53) Ymc Ymd))
def Ymf:MC:=.seq Yl7 (.cond (Qn 39) Yl8 (.seq Yl9 Yme))
def Ymg:MC:=.seq Yl4 (.seq (.cond (Qn 20) .skip (MC.exit 0)) (.blk 1 (.seq Yl5 (.seq Yl6 (.blk 2 Ymf)))))
def Xxh:List MO:=[Qa (Qv 60) (Qd (Qn 5)),Qa (Qv 61) (MOp.bslice 1 [(Qr Go.IntKind.i32 0)] 1 [(0,(Qo (Qp (Qq (Qr Go.IntKind.i32 34)))))]),Qa (Qv 62) (MOp.callv (Qn 60) [(Qn 61)])]
def Ymh:MC:=.r0 Xxh
def Xxi:List MO:=[Qa (Qv 63) (Qh 102 [(Qn 4)]),Qa (Qv 2) (Qd (Qn 63)),Qa (Qv 3) (Qd (Qo (Qp (Qq (Qr Qu 0)))))]
def Ymi:MC:=.r0 Xxi
def Ymj:MC:=.seq (.seq Yl3 (.blk 0 (.loop Ymg))) (.seq Ymh (.seq Ymi .ret))
def Ymk:MC:=.seq Y67 (.seq Y68 (.seq Yl2 Ymj))
def Xxj:MC:=.seq Y64 (.seq (.seq Y65 (.cond (Qn 12) (.seq Y66 .ret) .skip)) Ymk)
attribute [go_sem] Yad Yae Yaf Yag Yah Xw5 Xw6 Xw7 Xw8 Xw9 Xxa Xxb Xxc Xxd Xxe Xxf Xxg Xxh Xxi
theorem Wmc:KK QP 149 f149 [] Xxj [(RV.t 2),(RV.t 3)] 64:=by refine⟨func149,?_,?_,?_,?_⟩<;>kernel_rfl
theorem Y69:Xaa QP 149=true:=by kernel_rfl
theorem Y7a (h:GI QP gp [(RV.t 2),(RV.t 3)] res 64 Xxj args):Xam QP gp 149 args res:=Wmc.i Y69 h
def Yai:List MO:=[Qa (Qv 4) (Qd (Qo (Qp (Qq (Qr Qu 0))))),Qa (Qv 5) (Qd (Qo (Qp (Qq (Qr Qu 0)))))]
def Y7b:MC:=.r0 Yai
def Yaj:List MO:=[Qa (Qv 9) (Qd (Qn 0)),Qa (Qv 10) (Qd (Qn 1)),Qa (Qv 11) (MOp.idxS (Qn 9) (Qn 10)),Qa (Qv 12) (MOp.conv Qu (Qn 11)),Qa (Qv 6) (Qd (Qn 12))]
def Y7c:MC:=.r0 Yaj
def Yak:List MO:=[Qa (Qv 7) (Qd (Qo (Qp (Qq (Qr Qu 1)))))]
def Y7d:MC:=.r0 Yak
def Yal:List MO:=[Qa (Qv 13) (Qd (Qn 6)),Qa (Qv 14) (Qe Qt Go.BinOp.geq (Qn 13) (Qo (Qp (Qq (Qr Qu 240)))))]
def Y7e:MC:=.r0 Yal
def Yam:List MO:=[Qa (Qv 7) (Qd (Qo (Qp (Qq (Qr Qu 4)))))]
def Y7f:MC:=.r0 Yam
def Yan:List MO:=[Qa (Qv 15) (Qd (Qn 6)),Qa (Qv 16) (Qe Qt Go.BinOp.sub (Qn 15) (Qo (Qp (Qq (Qr Qu 240))))),Qa (Qv 6) (Qd (Qn 16))]
def Y7g:MC:=.r0 Yan
def Yao:List MO:=[Qa (Qv 17) (Qd (Qn 6)),Qa (Qv 18) (Qe Qt Go.BinOp.geq (Qn 17) (Qo (Qp (Qq (Qr Qu 224)))))]
def Y7h:MC:=.r0 Yao
def Yap:List MO:=[Qa (Qv 7) (Qd (Qo (Qp (Qq (Qr Qu 3)))))]
def Y7i:MC:=.r0 Yap
def Yaq:List MO:=[Qa (Qv 19) (Qd (Qn 6)),Qa (Qv 20) (Qe Qt Go.BinOp.sub (Qn 19) (Qo (Qp (Qq (Qr Qu 224))))),Qa (Qv 6) (Qd (Qn 20))]
def Y7j:MC:=.r0 Yaq
def Xxk:List MO:=[Qa (Qv 21) (Qd (Qn 6)),Qa (Qv 22) (Qe Qt Go.BinOp.geq (Qn 21) (Qo (Qp (Qq (Qr Qu 192)))))]
def Yml:MC:=.r0 Xxk
def Xxl:List MO:=[Qa (Qv 7) (Qd (Qo (Qp (Qq (Qr Qu 2)))))]
def Ymm:MC:=.r0 Xxl
def Xxm:List MO:=[Qa (Qv 23) (Qd (Qn 6)),Qa (Qv 24) (Qe Qt Go.BinOp.sub (Qn 23) (Qo (Qp (Qq (Qr Qu 192))))),Qa (Qv 6) (Qd (Qn 24))]
def Ymn:MC:=.r0 Xxm
def Ymo:MC:=.cond (Qn 18) (.seq Y7i Y7j) (.seq Yml (.cond (Qn 22) (.seq Ymm Ymn) .skip))
def Ymp:MC:=.cond (Qn 14) (.seq Y7f Y7g) (.seq Y7h Ymo)
def Xxn:List MO:=[Qa (Qv 25) (Qd (Qn 7)),Qa (Qv 26) (Qd (Qn 0)),Qa (Qv 27) (Qk Leaf.s (Qn 26)),Qa (Qv 28) (Qd (Qn 1)),Qa (Qv 29) (Qe Qt Go.BinOp.sub (Qn 27) (Qn 28)),Qa (Qv 30) (Qe Qt Go.BinOp.gtr (Qn 25) (Qn 29))]
def Ymq:MC:=.r0 Xxn
def Xxo:List MO:=[Qa (Qv 4) (Qd (Qo (Qp (Qq (Qr Qu 0))))),Qa (Qv 5) (Qd (Qo (Qp (Qq (Qr Qu 0)))))]
def Ymr:MC:=.r0 Xxo
def Xxp:List MO:=[Qa (Qv 8) (Qd (Qo (Qp (Qq (Qr Qu 1)))))]
def Yms:MC:=.r0 Xxp
def Xxq:List MO:=[Qa (Qv 31) (Qd (Qn 8)),Qa (Qv 32) (Qd (Qn 7)),Qa (Qv 33) (Qe Qt Go.BinOp.lss (Qn 31) (Qn 32))]
def Ymt:MC:=.r0 Xxq
def Xxr:List MO:=[Qa (Qv 36) (Qd (Qn 6)),Qa (Qv 37) (Qe Qt Go.BinOp.mul (Qo (Qp (Qq (Qr Qu 64)))) (Qn 36)),Qa (Qv 38) (Qd (Qn 0)),Qa (Qv 39) (Qd (Qn 1)),Qa (Qv 40) (Qd (Qn 8)),Qa (Qv 41) (Qe Qt Go.BinOp.add (Qn 39) (Qn 40)),Qa (Qv 42) (MOp.idxS (Qn 38) (Qn 41)),Qa (Qv 43) (MOp.conv Qu (Qn 42)),Qa (Qv 44) (Qe Qt Go.BinOp.rem (Qn 43) (Qo (Qp (Qq (Qr Qu 64))))),Qa (Qv 45) (Qe Qt Go.BinOp.add (Qn 37) (Qn 44)),Qa (Qv 6) (Qd (Qn 45))]
def Ymu:MC:=.r0 Xxr
def Xxs:List MO:=[Qa (Qv 34) (Qd (Qn 8)),Qa (Qv 35) (Qe Qt Go.BinOp.add (Qn 34) (Qo (Qp (Qq (Qr Qu 1))))),Qa (Qv 8) (Qd (Qn 35))]
def Ymv:MC:=.r0 Xxs
def Ymw:MC:=.seq Yms (.blk 0 (.loop (.seq (.seq Ymt (.cond (Qn 33) .skip (MC.exit 0))) (.seq (.blk 1 Ymu) Ymv))))
def Xxt:List MO:=[Qa (Qv 46) (Qd (Qn 6)),Qc (Qv 47) (Qh 177 [(Qn 46)]),Qa (Qv 48) (MOp.not (Qn 47)),Qa (Qv 49) (Qd (Qn 48)),Qb 49 false (Qv 50),Qa (Qv 50) (Qd (Qn 6)),Qb 49 false (Qv 51),Qc (Qv 51) (Qh 178 [(Qn 50)]),Qb 49 false (Qv 52),Qa (Qv 52) (Qd (Qn 0)),Qb 49 false (Qv 53),Qa (Qv 53) (Qd (Qn 1)),Qb 49 false (Qv 54),Qa (Qv 54) (Qd (Qn 1)),Qb 49 false (Qv 55),Qa (Qv 55) (Qd (Qn 7)),Qb 49 false (Qv 56),Qa (Qv 56) (Qe Qt Go.BinOp.add (Qn 54) (Qn 55)),Qb 49 false (Qv 57),Qa (Qv 57) (MOp.slcS (Qn 52) (Qv (Qn 53)) (Qv (Qn 56))),Qb 49 false (Qv 58),Qa (Qv 58) (Qe Leaf.s Go.BinOp.neq (Qn 51) (Qn 57)),Qa (Qv 59) (Qm (Qn 49) (Qo (Qp (Qq (Qs true)))) (Qn 58))]
def Ymx:MC:=.reg true Xxt
def Xxu:List MO:=[Qa (Qv 4) (Qd (Qo (Qp (Qq (Qr Qu 0))))),Qa (Qv 5) (Qd (Qo (Qp (Qq (Qr Qu 0)))))]
def Ymy:MC:=.r0 Xxu
def Xxv:List MO:=[Qa (Qv 60) (Qd (Qn 6)),Qa (Qv 61) (Qd (Qn 7)),Qa (Qv 4) (Qd (Qn 60)),Qa (Qv 5) (Qd (Qn 61))]
def Ymz:MC:=.r0 Xxv
def Ym0:MC:=.seq Ymw (.seq (.seq Ymx (.cond (Qn 59) (.seq Ymy .ret) .skip)) (.seq Ymz .ret))
def Ym1:MC:=.seq (.seq Y7e Ymp) (.seq (.seq Ymq (.cond (Qn 30) (.seq Ymr .ret) .skip)) Ym0)
def Xxw:MC:=.seq Y7b (.seq Y7c (.seq Y7d Ym1))
attribute [go_sem] Yai Yaj Yak Yal Yam Yan Yao Yap Yaq Xxk Xxl Xxm Xxn Xxo Xxp Xxq Xxr Xxs Xxt Xxu Xxv
theorem Wmd:KK QP 160 f160 [] Xxw [(RV.t 4),(RV.t 5)] 62:=by refine⟨func160,?_,?_,?_,?_⟩<;>kernel_rfl
theorem Y7k:Xaa QP 160=true:=by kernel_rfl
theorem Y7l (h:GI QP gp [(RV.t 4),(RV.t 5)] res 62 Xxw args):Xam QP gp 160 args res:=Wmd.i Y7k h
def Yar:List MO:=[Qa (Qv 2) (Qd (Qo (Qp (Qq (D.str (ByteArray.mk #[]))))))]
def Y7m:MC:=.r0 Yar
def Yas:List MO:=[Qa (Qv 3) (Qd (Qn 0))]
def Y7n:MC:=.r0 Yas
def Yat:List MO:=[Qa (Qv 2) (Qd (Qo (Qp (Qq (D.str (ByteArray.mk #[116,114,117,101]))))))]
def Y7o:MC:=.r0 Yat
def Yau:List MO:=[Qa (Qv 2) (Qd (Qo (Qp (Qq (D.str (ByteArray.mk #[102,97,108,115,101]))))))]
def Y7p:MC:=.r0 Yau
def Xxx:MC:=.seq Y7m (.seq (.seq Y7n (.cond (Qn 3) (.seq Y7o .ret) .skip)) (.seq Y7p .ret))
attribute [go_sem] Yar Yas Yat Yau
theorem Wme:KK QP 162 f162 [] Xxx [(RV.t 2)] 4:=by refine⟨func162,?_,?_,?_,?_⟩<;>kernel_rfl
theorem Y7q:Xaa QP 162=true:=by kernel_rfl
theorem Y7r (h:GI QP gp [(RV.t 2)] res 4 Xxx args):Xam QP gp 162 args res:=Wme.i Y7q h
def Yav:List MO:=[Qa (Qv 5) (Qd (Qn 0)),Qa (Qv 6) (Qk Qt (Qn 5)),Qa (Qv 7) (Qd (Qo (Qp (Qq (Qr Qu 0)))))]
def Y7s:MC:=.r0 Yav
def Yaw:List MO:=[Qa (Qv 8) (Qe Qt Go.BinOp.lss (Qn 7) (Qn 6))]
def Y7t:MC:=.r0 Yaw
def Yax:List MO:=[Qa (Qv 9) (Qj 1 (Qn 5) (Qn 7)),Qa (Qv 10) (Qf 1 false (Qn 9)),Qa (Qv 4) (Qd (Qn 10))]
def Y7u:MC:=.r0 Yax
def Yay:List MO:=[Qa (Qv 11) (Qd (Qn 4)),Qa (Qv 12) (Qh 164 [(Qn 1),(Qn 11)])]
def Y7v:MC:=.r0 Yay
def Yaz:List MO:=[Qa (Qv 13) (Qe Qt Go.BinOp.add (Qn 7) (Qo (Qp (Qq (Qr Qu 1))))),Qa (Qv 7) (Qd (Qn 13))]
def Y7w:MC:=.r0 Yaz
def Ym2:MC:=.seq Y7t (.seq (.cond (Qn 8) .skip (MC.exit 0)) (.seq (.blk 1 (.seq Y7u Y7v)) Y7w))
def Xxy:MC:=.seq Y7s (.blk 0 (.loop Ym2))
attribute [go_sem] Yav Yaw Yax Yay Yaz
theorem Wmf:KK QP 163 f163 [] Xxy [] 14:=by refine⟨func163,?_,?_,?_,?_⟩<;>kernel_rfl
theorem Xjy:Xaa QP 163=true:=by kernel_rfl
theorem Ym3 (h:GT QP gp [] pre R 14 Xxy args):Tri QP gp 163 args pre R:=Wmf.t h
def Ya0:List MO:=[Qa (Qv 4) (Qd (Qo (Qp (Qq (Qr Qu 0))))),Qa (Qv 5) (Qd (Qo (Qp (Qq D.nilI))))]
def Y7x:MC:=.r0 Ya0
def Ya1:List MO:=[Qa (Qv 7) (Qd (Qn 0)),Qa (Qv 8) (Qh 132 [(Qn 7)])]
def Y7y:MC:=.r0 Ya1
def Ya2:List MO:=[Qa (Qv 9) (Qd (Qn 0)),Qa (Qv 10) (MOp.nck (Qn 9)),Qa (Qv 11) (Qg 1 (Qn 10)),Qa (Qv 12) (Qf 1 false (Qn 11)),Qa (Qv 13) (Qk Qt (Qn 12)),Qa (Qv 6) (Qd (Qn 13))]
def Y7z:MC:=.r0 Ya2
def Ya3:List MO:=[Qa (Qv 14) (Qd (Qn 0)),Qa (Qv 15) (Qd (Qn 0)),Qa (Qv 16) (MOp.nck (Qn 15)),Qa (Qv 17) (Qg 1 (Qn 16)),Qa (Qv 18) (Qf 1 false (Qn 17)),Qa (Qv 19) (Qd (Qn 1)),Qa (Qv 20) (Qh 180 [(Qn 18),(Qn 19)]),Qa (Qv 21) (MOp.nck (Qn 14)),Qa (Qv 22) (Qg 1 (Qn 21)),Qa none (Ql 1 (Qn 22) (Qn 20))]
def Y70:MC:=.r0 Ya3
def Ya4:List MO:=[Qa (Qv 23) (Qd (Qn 0)),Qa (Qv 24) (MOp.nck (Qn 23)),Qa (Qv 25) (Qg 1 (Qn 24)),Qa (Qv 26) (Qf 1 false (Qn 25)),Qa (Qv 27) (Qk Qt (Qn 26)),Qa (Qv 28) (Qd (Qn 6)),Qa (Qv 29) (Qe Qt Go.BinOp.sub (Qn 27) (Qn 28)),Qa (Qv 4) (Qd (Qn 29)),Qa (Qv 5) (Qd (Qo (Qp (Qq D.nilI))))]
def Y71:MC:=.r0 Ya4
def Y72:MC:=.seq Y7y (.seq Y7z (.seq Y70 (.seq Y71 .ret)))
def Xxz:MC:=.seq Y7x Y72
attribute [go_sem] Ya0 Ya1 Ya2 Ya3 Ya4
theorem Wmg:KK QP 164 f164 [] Xxz [(RV.t 4),(RV.t 5)] 30:=by refine⟨func164,?_,?_,?_,?_⟩<;>kernel_rfl
theorem Y73:Xaa QP 164=true:=by kernel_rfl
theorem Ym4 (h:GT QP gp [(RV.t 4),(RV.t 5)] pre R 30 Xxz args):Tri QP gp 164 args pre R:=Wmg.t h
def Ya5:List MO:=[Qa (Qv 0) (Qd (Qo (Qp (Qq (D.raw (Go.Value.map none))))))]
def Y74:MC:=.r0 Ya5
def Ya6:List MO:=[Qa (Qv 1) MOp.mkM,Qa none (MOp.mupd false [Qt] (Qn 1) (Qo (Qp (Qq (Qr Go.IntKind.i32 10)))) (Qo (Qp (Qq (Qr Go.IntKind.i32 110))))),Qa none (MOp.mupd false [Qt] (Qn 1) (Qo (Qp (Qq (Qr Go.IntKind.i32 9)))) (Qo (Qp (Qq (Qr Go.IntKind.i32 116))))),Qa none (MOp.mupd false [Qt] (Qn 1) (Qo (Qp (Qq (Qr Go.IntKind.i32 13)))) (Qo (Qp (Qq (Qr Go.IntKind.i32 114))))),Qa (Qv 2) (Qd (Qn 1)),Qa (Qv 0) (Qd (Qn 2))]
def Y75:MC:=.r0 Ya6
def Ya7:MC:=.seq Y74 (.seq Y75 .ret)
attribute [go_sem] Ya5 Ya6
theorem Wmh:KK QP 165 f165 [] Ya7 [(RV.t 0)] 3:=by refine⟨func165,?_,?_,?_,?_⟩<;>kernel_rfl
theorem Xo9:Xaa QP 165=true:=by kernel_rfl
theorem Ym5 (h:GT QP gp [(RV.t 0)] pre R 3 Ya7 args):Tri QP gp 165 args pre R:=Wmh.t h
def Ya8:List MO:=[Qa (Qv 4) (Qd (Qo (Qp (Qq (Qs false)))))]
def Y76:MC:=.r0 Ya8
def Ya9:List MO:=[Qa (Qv 7) (Qd (Qn 1)),Qa (Qv 8) (Qk Qt (Qn 7)),Qa (Qv 9) (Qd (Qo (Qp (Qq (Qr Qu 0)))))]
def Y77:MC:=.r0 Ya9
def Yba:List MO:=[Qa (Qv 10) (Qe Qt Go.BinOp.lss (Qn 9) (Qn 8))]
def Y78:MC:=.r0 Yba
def Ybb:List MO:=[Qa (Qv 11) (Qj 1 (Qn 7) (Qn 9)),Qa (Qv 12) (Qf 1 false (Qn 11)),Qa (Qv 6) (Qd (Qn 12))]
def Y79:MC:=.r0 Ybb
def Ybc:List MO:=[Qa (Qv 13) (Qd (Qn 0)),Qa (Qv 14) (Qd (Qn 6)),Qa (Qv 15) (Qe Qt Go.BinOp.eql (Qn 13) (Qn 14))]
def Y8a:MC:=.r0 Ybc
def Ybd:List MO:=[Qa (Qv 4) (Qd (Qo (Qp (Qq (Qs true)))))]
def Y8b:MC:=.r0 Ybd
def Xx0:List MO:=[Qa (Qv 16) (Qe Qt Go.BinOp.add (Qn 9) (Qo (Qp (Qq (Qr Qu 1))))),Qa (Qv 9) (Qd (Qn 16))]
def Ym6:MC:=.r0 Xx0
def Ym7:MC:=.seq (.blk 1 (.seq Y79 (.seq Y8a (.cond (Qn 15) (.seq Y8b .ret) .skip)))) Ym6
def Xx1:List MO:=[Qa (Qv 4) (Qd (Qo (Qp (Qq (Qs false)))))]
def Ym8:MC:=.r0 Xx1
def Ym9:MC:=.seq (.seq Y77 (.blk 0 (.loop (.seq Y78 (.seq (.cond (Qn 10) .skip (MC.exit 0)) Ym7))))) (.seq Ym8 .ret)
def Xx2:MC:=.seq Y76 Ym9
attribute [go_sem] Ya8 Ya9 Yba Ybb Ybc Ybd Xx0 Xx1
theorem Wmi:KK QP 166 f166 [] Xx2 [(RV.t 4)] 17:=by refine⟨func166,?_,?_,?_,?_⟩<;>kernel_rfl
theorem Y8c:Xaa QP 166=true:=by kernel_rfl
theorem Y8d (h:GI QP gp [(RV.t 4)] res 17 Xx2 args):Xam QP gp 166 args res:=Wmi.i Y8c h
def Ybe:List MO:=[Qa (Qv 2) (Qd (Qo (Qp (Qq (Qs false)))))]
def Y8e:MC:=.r0 Ybe
def Ybf:List MO:=[Qa (Qv 3) (Qd (Qn 0)),Qa (Qv 4) (Qe Qt Go.BinOp.geq (Qn 3) (Qo (Qp (Qq (Qr Go.IntKind.i32 32))))),Qa (Qv 5) (Qd (Qn 4)),Qb 5 true (Qv 6),Qa (Qv 6) (Qd (Qn 0)),Qb 5 true (Qv 7),Qa (Qv 7) (Qe Qt Go.BinOp.neq (Qn 6) (Qo (Qp (Qq (Qr Go.IntKind.i32 127))))),Qa (Qv 8) (Qm (Qn 5) (Qn 7) (Qo (Qp (Qq (Qs false))))),Qa (Qv 2) (Qd (Qn 8))]
def Y8f:MC:=.r0 Ybf
def Ybg:MC:=.seq Y8e (.seq Y8f .ret)
attribute [go_sem] Ybe Ybf
theorem Wmj:KK QP 167 f167 [] Ybg [(RV.t 2)] 9:=by refine⟨func167,?_,?_,?_,?_⟩<;>kernel_rfl
theorem Y8g:Xaa QP 167=true:=by kernel_rfl
theorem Y8h (h:GI QP gp [(RV.t 2)] res 9 Ybg args):Xam QP gp 167 args res:=Wmj.i Y8g h
def Ybh:List MO:=[Qa (Qv 2) (Qd (Qo (Qp (Qq (Qs false)))))]
def Y8i:MC:=.r0 Ybh
def Ybi:List MO:=[Qa (Qv 3) (Qd (Qn 0)),Qa (Qv 4) (Qe Qt Go.BinOp.geq (Qn 3) (Qo (Qp (Qq (Qr Qu 0))))),Qa (Qv 5) (Qd (Qn 4)),Qb 5 true (Qv 6),Qa (Qv 6) (Qd (Qn 0)),Qb 5 true (Qv 7),Qa (Qv 7) (Qe Qt Go.BinOp.leq (Qn 6) (Qo (Qp (Qq (Qr Qu 1114111))))),Qa (Qv 8) (Qm (Qn 5) (Qn 7) (Qo (Qp (Qq (Qs false))))),Qa (Qv 9) (Qd (Qn 8)),Qb 9 true (Qv 10),Qa (Qv 10) (Qd (Qn 0)),Qb 9 true (Qv 11),Qa (Qv 11) (Qe Qt Go.BinOp.lss (Qn 10) (Qo (Qp (Qq (Qr Qu 55296))))),Qb 9 true (Qv 12),Qa (Qv 12) (Qd (Qn 11)),Qb 12 false (Qv 13),Qa (Qv 13) (Qd (Qn 0)),Qb 12 false (Qv 14),Qa (Qv 14) (Qe Qt Go.BinOp.gtr (Qn 13) (Qo (Qp (Qq (Qr Qu 57343))))),Qb 9 true (Qv 15),Qa (Qv 15) (Qm (Qn 12) (Qo (Qp (Qq (Qs true)))) (Qn 14)),Qa (Qv 16) (Qm (Qn 9) (Qn 15) (Qo (Qp (Qq (Qs false))))),Qa (Qv 2) (Qd (Qn 16))]
def Y8j:MC:=.r0 Ybi
def Ybj:MC:=.seq Y8i (.seq Y8j .ret)
attribute [go_sem] Ybh Ybi
theorem Wmk:KK QP 177 f177 [] Ybj [(RV.t 2)] 17:=by refine⟨func177,?_,?_,?_,?_⟩<;>kernel_rfl
theorem Y8k:Xaa QP 177=true:=by kernel_rfl
theorem Y8l (h:GI QP gp [(RV.t 2)] res 17 Ybj args):Xam QP gp 177 args res:=Wmk.i Y8k h
def Ybk:List MO:=[Qa (Qv 2) (Qd (Qo (Qp (Qq (D.str (ByteArray.mk #[]))))))]
def Y8m:MC:=.r0 Ybk
def Ybl:List MO:=[Qa (Qv 3) (Qd (Qn 0)),Qa (Qv 4) (Qe Qt Go.BinOp.lss (Qn 3) (Qo (Qp (Qq (Qr Qu 128)))))]
def Y8n:MC:=.r0 Ybl
def Ybm:List MO:=[Qa (Qv 5) (Qd (Qn 0)),Qa (Qv 6) (MOp.conv Go.IntKind.u8 (Qn 5)),Qa (Qv 7) (MOp.bslice 1 [(Qr Go.IntKind.u8 0)] 1 [(0,(Qn 6))]),Qa (Qv 8) (MOp.strB (Qn 7)),Qa (Qv 2) (Qd (Qn 8))]
def Y8o:MC:=.r0 Ybm
def Ybn:List MO:=[Qa (Qv 9) (Qd (Qn 0)),Qa (Qv 10) (Qe Qt Go.BinOp.lss (Qn 9) (Qo (Qp (Qq (Qr Qu 2048)))))]
def Y8p:MC:=.r0 Ybn
def Ybo:List MO:=[Qa (Qv 11) (Qd (Qn 0)),Qa (Qv 12) (Qe Qt Go.BinOp.quo (Qn 11) (Qo (Qp (Qq (Qr Qu 64))))),Qa (Qv 13) (Qe Qt Go.BinOp.add (Qo (Qp (Qq (Qr Qu 192)))) (Qn 12)),Qa (Qv 14) (MOp.conv Go.IntKind.u8 (Qn 13)),Qa (Qv 15) (Qd (Qn 0)),Qa (Qv 16) (Qe Qt Go.BinOp.rem (Qn 15) (Qo (Qp (Qq (Qr Qu 64))))),Qa (Qv 17) (Qe Qt Go.BinOp.add (Qo (Qp (Qq (Qr Qu 128)))) (Qn 16)),Qa (Qv 18) (MOp.conv Go.IntKind.u8 (Qn 17)),Qa (Qv 19) (MOp.bslice 1 [(Qr Go.IntKind.u8 0)] 2 [(0,(Qn 14)),(1,(Qn 18))]),Qa (Qv 20) (MOp.strB (Qn 19)),Qa (Qv 2) (Qd (Qn 20))]
def Y8q:MC:=.r0 Ybo
def Xx3:List MO:=[Qa (Qv 21) (Qd (Qn 0)),Qa (Qv 22) (Qe Qt Go.BinOp.lss (Qn 21) (Qo (Qp (Qq (Qr Qu 65536)))))]
def Yna:MC:=.r0 Xx3
def Xx4:List MO:=[Qa (Qv 23) (Qd (Qn 0)),Qa (Qv 24) (Qe Qt Go.BinOp.quo (Qn 23) (Qo (Qp (Qq (Qr Qu 4096))))),Qa (Qv 25) (Qe Qt Go.BinOp.add (Qo (Qp (Qq (Qr Qu 224)))) (Qn 24)),Qa (Qv 26) (MOp.conv Go.IntKind.u8 (Qn 25)),Qa (Qv 27) (Qd (Qn 0)),Qa (Qv 28) (Qe Qt Go.BinOp.quo (Qn 27) (Qo (Qp (Qq (Qr Qu 64))))),Qa (Qv 29) (Qe Qt Go.BinOp.rem (Qn 28) (Qo (Qp (Qq (Qr Qu 64))))),Qa (Qv 30) (Qe Qt Go.BinOp.add (Qo (Qp (Qq (Qr Qu 128)))) (Qn 29)),Qa (Qv 31) (MOp.conv Go.IntKind.u8 (Qn 30)),Qa (Qv 32) (Qd (Qn 0)),Qa (Qv 33) (Qe Qt Go.BinOp.rem (Qn 32) (Qo (Qp (Qq (Qr Qu 64))))),Qa (Qv 34) (Qe Qt Go.BinOp.add (Qo (Qp (Qq (Qr Qu 128)))) (Qn 33)),Qa (Qv 35) (MOp.conv Go.IntKind.u8 (Qn 34)),Qa (Qv 36) (MOp.bslice 1 [(Qr Go.IntKind.u8 0)] 3 [(0,(Qn 26)),(1,(Qn 31)),(2,(Qn 35))]),Qa (Qv 37) (MOp.strB (Qn 36)),Qa (Qv 2) (Qd (Qn 37))]
def Ynb:MC:=.r0 Xx4
def Xx5:List MO:=[Qa (Qv 38) (Qd (Qn 0)),Qa (Qv 39) (Qe Qt Go.BinOp.quo (Qn 38) (Qo (Qp (Qq (Qr Qu 262144))))),Qa (Qv 40) (Qe Qt Go.BinOp.add (Qo (Qp (Qq (Qr Qu 240)))) (Qn 39)),Qa (Qv 41) (MOp.conv Go.IntKind.u8 (Qn 40)),Qa (Qv 42) (Qd (Qn 0)),Qa (Qv 43) (Qe Qt Go.BinOp.quo (Qn 42) (Qo (Qp (Qq (Qr Qu 4096))))),Qa (Qv 44) (Qe Qt Go.BinOp.rem (Qn 43) (Qo (Qp (Qq (Qr Qu 64))))),Qa (Qv 45) (Qe Qt Go.BinOp.add (Qo (Qp (Qq (Qr Qu 128)))) (Qn 44)),Qa (Qv 46) (MOp.conv Go.IntKind.u8 (Qn 45)),Qa (Qv 47) (Qd (Qn 0)),Qa (Qv 48) (Qe Qt Go.BinOp.quo (Qn 47) (Qo (Qp (Qq (Qr Qu 64))))),Qa (Qv 49) (Qe Qt Go.BinOp.rem (Qn 48) (Qo (Qp (Qq (Qr Qu 64))))),Qa (Qv 50) (Qe Qt Go.BinOp.add (Qo (Qp (Qq (Qr Qu 128)))) (Qn 49)),Qa (Qv 51) (MOp.conv Go.IntKind.u8 (Qn 50)),Qa (Qv 52) (Qd (Qn 0)),Qa (Qv 53) (Qe Qt Go.BinOp.rem (Qn 52) (Qo (Qp (Qq (Qr Qu 64))))),Qa (Qv 54) (Qe Qt Go.BinOp.add (Qo (Qp (Qq (Qr Qu 128)))) (Qn 53)),Qa (Qv 55) (MOp.conv Go.IntKind.u8 (Qn 54)),Qa (Qv 56) (MOp.bslice 1 [(Qr Go.IntKind.u8 0)] 4 [(0,(Qn 41)),(1,(Qn 46)),(2,(Qn 51)),(3,(Qn 55))]),Qa (Qv 57) (MOp.strB (Qn 56)),Qa (Qv 2) (Qd (Qn 57))]
def Ync:MC:=.r0 Xx5
def Ynd:MC:=.seq (.seq Y8p (.cond (Qn 10) (.seq Y8q .ret) .skip)) (.seq (.seq Yna (.cond (Qn 22) (.seq Ynb .ret) .skip)) (.seq Ync .ret))
def Xx6:MC:=.seq Y8m (.seq (.seq Y8n (.cond (Qn 4) (.seq Y8o .ret) .skip)) Ynd)
attribute [go_sem] Ybk Ybl Ybm Ybn Ybo Xx3 Xx4 Xx5
theorem Wml:KK QP 178 f178 [] Xx6 [(RV.t 2)] 58:=by refine⟨func178,?_,?_,?_,?_⟩<;>kernel_rfl
theorem Y8r:Xaa QP 178=true:=by kernel_rfl
theorem Y8s (h:GI QP gp [(RV.t 2)] res 58 Xx6 args):Xam QP gp 178 args res:=Wml.i Y8r h
def Ybp:List MO:=[Qa (Qv 4) (Qd (Qo (Qp A.nil)))]
def Y8t:MC:=.r0 Ybp
def Ybq:List MO:=[Qa (Qv 5) (Qd (Qn 1)),Qa (Qv 6) (MOp.conv Go.IntKind.u32 (Qn 5)),Qa (Qv 7) (Qe Qt Go.BinOp.leq (Qn 6) (Qo (Qp (Qq (Qr Go.IntKind.u32 127)))))]
def Y8u:MC:=.r0 Ybq
def Ybr:List MO:=[Qa (Qv 8) (Qd (Qn 0)),Qa (Qv 9) (Qd (Qn 1)),Qa (Qv 10) (MOp.conv Go.IntKind.u8 (Qn 9)),Qa (Qv 11) (MOp.bslice 1 [(Qr Go.IntKind.u8 0)] 1 [(0,(Qn 10))]),Qa (Qv 12) (MOp.app 5 1 1 (Qn 8) (Qn 11)),Qa (Qv 4) (Qd (Qn 12))]
def Y8v:MC:=.r0 Ybr
def Ybs:List MO:=[Qa (Qv 13) (Qd (Qn 0)),Qa (Qv 14) (Qd (Qn 1)),Qa (Qv 15) (Qh 187 [(Qn 13),(Qn 14)]),Qa (Qv 4) (Qd (Qn 15))]
def Y8w:MC:=.r0 Ybs
def Xx7:MC:=.seq Y8t (.seq (.seq Y8u (.cond (Qn 7) (.seq Y8v .ret) .skip)) (.seq Y8w .ret))
attribute [go_sem] Ybp Ybq Ybr Ybs
theorem Wmm:KK QP 180 f180 [] Xx7 [(RV.t 4)] 16:=by refine⟨func180,?_,?_,?_,?_⟩<;>kernel_rfl
theorem Wte:Xaa QP 180=true:=by kernel_rfl
theorem Yne (h:GT QP gp [(RV.t 4)] pre R 16 Xx7 args):Tri QP gp 180 args pre R:=Wmm.t h
def Ybt:List MO:=[Qa (Qv 4) (Qd (Qo (Qp A.nil)))]
def Y8x:MC:=.r0 Ybt
def Ybu:List MO:=[Qa (Qv 6) (Qd (Qn 1)),Qa (Qv 7) (MOp.conv Go.IntKind.u32 (Qn 6)),Qa (Qv 5) (Qd (Qn 7))]
def Y8y:MC:=.r0 Ybu
def Ybv:List MO:=[Qa (Qv 12) (Qd (Qn 5)),Qa (Qv 13) (Qe Qt Go.BinOp.leq (Qn 12) (Qo (Qp (Qq (Qr Go.IntKind.u32 2047))))),Qa (Qv 11) (Qd (Qn 13))]
def Y8z:MC:=.r0 Ybv
def Ybw:List MO:=[Qa (Qv 14) (Qd (Qn 0)),Qa (Qv 15) (Qd (Qn 1)),Qa (Qv 16) (Qe Qt Go.BinOp.shr (Qn 15) (Qo (Qp (Qq (Qr Go.IntKind.u64 6))))),Qa (Qv 17) (MOp.conv Go.IntKind.u8 (Qn 16)),Qa (Qv 18) (Qe Qt Go.BinOp.or (Qo (Qp (Qq (Qr Go.IntKind.u8 192)))) (Qn 17)),Qa (Qv 19) (Qd (Qn 1)),Qa (Qv 20) (MOp.conv Go.IntKind.u8 (Qn 19)),Qa (Qv 21) (Qe Qt Go.BinOp.and (Qn 20) (Qo (Qp (Qq (Qr Go.IntKind.u8 63))))),Qa (Qv 22) (Qe Qt Go.BinOp.or (Qo (Qp (Qq (Qr Go.IntKind.u8 128)))) (Qn 21)),Qa (Qv 23) (MOp.bslice 1 [(Qr Go.IntKind.u8 0)] 2 [(0,(Qn 18)),(1,(Qn 22))]),Qa (Qv 24) (MOp.app 5 1 1 (Qn 14) (Qn 23)),Qa (Qv 4) (Qd (Qn 24))]
def Y80:MC:=.r0 Ybw
def Ybx:List MO:=[Qa (Qv 26) (Qd (Qn 5)),Qa (Qv 27) (Qe Qt Go.BinOp.lss (Qn 26) (Qo (Qp (Qq (Qr Go.IntKind.u32 55296))))),Qa (Qv 25) (Qd (Qn 27))]
def Y81:MC:=.r0 Ybx
def Yby:List MO:=[Qa (Qv 28) (Qd (Qn 5)),Qa (Qv 29) (Qe Qt Go.BinOp.lss (Qo (Qp (Qq (Qr Go.IntKind.u32 57343)))) (Qn 28)),Qa (Qv 30) (Qd (Qn 29)),Qb 30 true (Qv 31),Qa (Qv 31) (Qd (Qn 5)),Qb 30 true (Qv 32),Qa (Qv 32) (Qe Qt Go.BinOp.leq (Qn 31) (Qo (Qp (Qq (Qr Go.IntKind.u32 65535))))),Qa (Qv 33) (Qm (Qn 30) (Qn 32) (Qo (Qp (Qq (Qs false))))),Qa (Qv 25) (Qd (Qn 33))]
def Y82:MC:=.r0 Yby
def Xx8:List MO:=[Qa (Qv 34) (Qd (Qn 0)),Qa (Qv 35) (Qd (Qn 1)),Qa (Qv 36) (Qe Qt Go.BinOp.shr (Qn 35) (Qo (Qp (Qq (Qr Go.IntKind.u64 12))))),Qa (Qv 37) (MOp.conv Go.IntKind.u8 (Qn 36)),Qa (Qv 38) (Qe Qt Go.BinOp.or (Qo (Qp (Qq (Qr Go.IntKind.u8 224)))) (Qn 37)),Qa (Qv 39) (Qd (Qn 1)),Qa (Qv 40) (Qe Qt Go.BinOp.shr (Qn 39) (Qo (Qp (Qq (Qr Go.IntKind.u64 6))))),Qa (Qv 41) (MOp.conv Go.IntKind.u8 (Qn 40)),Qa (Qv 42) (Qe Qt Go.BinOp.and (Qn 41) (Qo (Qp (Qq (Qr Go.IntKind.u8 63))))),Qa (Qv 43) (Qe Qt Go.BinOp.or (Qo (Qp (Qq (Qr Go.IntKind.u8 128)))) (Qn 42)),Qa (Qv 44) (Qd (Qn 1)),Qa (Qv 45) (MOp.conv Go.IntKind.u8 (Qn 44)),Qa (Qv 46) (Qe Qt Go.BinOp.and (Qn 45) (Qo (Qp (Qq (Qr Go.IntKind.u8 63))))),Qa (Qv 47) (Qe Qt Go.BinOp.or (Qo (Qp (Qq (Qr Go.IntKind.u8 128)))) (Qn 46)),Qa (Qv 48) (MOp.bslice 1 [(Qr Go.IntKind.u8 0)] 3 [(0,(Qn 38)),(1,(Qn 43)),(2,(Qn 47))]),Qa (Qv 49) (MOp.app 5 1 1 (Qn 34) (Qn 48)),Qa (Qv 4) (Qd (Qn 49))]
def Ynf:MC:=.r0 Xx8
def Xx9:List MO:=[Qa (Qv 51) (Qd (Qn 5)),Qa (Qv 52) (Qe Qt Go.BinOp.gtr (Qn 51) (Qo (Qp (Qq (Qr Go.IntKind.u32 65535))))),Qa (Qv 53) (Qd (Qn 52)),Qb 53 true (Qv 54),Qa (Qv 54) (Qd (Qn 5)),Qb 53 true (Qv 55),Qa (Qv 55) (Qe Qt Go.BinOp.leq (Qn 54) (Qo (Qp (Qq (Qr Go.IntKind.u32 1114111))))),Qa (Qv 56) (Qm (Qn 53) (Qn 55) (Qo (Qp (Qq (Qs false))))),Qa (Qv 50) (Qd (Qn 56))]
def Yng:MC:=.r0 Xx9
def Xya:List MO:=[Qa (Qv 57) (Qd (Qn 0)),Qa (Qv 58) (Qd (Qn 1)),Qa (Qv 59) (Qe Qt Go.BinOp.shr (Qn 58) (Qo (Qp (Qq (Qr Go.IntKind.u64 18))))),Qa (Qv 60) (MOp.conv Go.IntKind.u8 (Qn 59)),Qa (Qv 61) (Qe Qt Go.BinOp.or (Qo (Qp (Qq (Qr Go.IntKind.u8 240)))) (Qn 60)),Qa (Qv 62) (Qd (Qn 1)),Qa (Qv 63) (Qe Qt Go.BinOp.shr (Qn 62) (Qo (Qp (Qq (Qr Go.IntKind.u64 12))))),Qa (Qv 64) (MOp.conv Go.IntKind.u8 (Qn 63)),Qa (Qv 65) (Qe Qt Go.BinOp.and (Qn 64) (Qo (Qp (Qq (Qr Go.IntKind.u8 63))))),Qa (Qv 66) (Qe Qt Go.BinOp.or (Qo (Qp (Qq (Qr Go.IntKind.u8 128)))) (Qn 65)),Qa (Qv 67) (Qd (Qn 1)),Qa (Qv 68) (Qe Qt Go.BinOp.shr (Qn 67) (Qo (Qp (Qq (Qr Go.IntKind.u64 6))))),Qa (Qv 69) (MOp.conv Go.IntKind.u8 (Qn 68)),Qa (Qv 70) (Qe Qt Go.BinOp.and (Qn 69) (Qo (Qp (Qq (Qr Go.IntKind.u8 63))))),Qa (Qv 71) (Qe Qt Go.BinOp.or (Qo (Qp (Qq (Qr Go.IntKind.u8 128)))) (Qn 70)),Qa (Qv 72) (Qd (Qn 1)),Qa (Qv 73) (MOp.conv Go.IntKind.u8 (Qn 72)),Qa (Qv 74) (Qe Qt Go.BinOp.and (Qn 73) (Qo (Qp (Qq (Qr Go.IntKind.u8 63))))),Qa (Qv 75) (Qe Qt Go.BinOp.or (Qo (Qp (Qq (Qr Go.IntKind.u8 128)))) (Qn 74)),Qa (Qv 76) (MOp.bslice 1 [(Qr Go.IntKind.u8 0)] 4 [(0,(Qn 61)),(1,(Qn 66)),(2,(Qn 71)),(3,(Qn 75))]),Qa (Qv 77) (MOp.app 5 1 1 (Qn 57) (Qn 76)),Qa (Qv 4) (Qd (Qn 77))]
def Ynh:MC:=.r0 Xya
def Xyb:List MO:=[Qa (Qv 8) (Qd (Qn 0)),Qa (Qv 9) (MOp.bslice 1 [(Qr Go.IntKind.u8 0)] 3 [(0,(Qo (Qp (Qq (Qr Go.IntKind.u8 239))))),(1,(Qo (Qp (Qq (Qr Go.IntKind.u8 191))))),(2,(Qo (Qp (Qq (Qr Go.IntKind.u8 189)))))]),Qa (Qv 10) (MOp.app 5 1 1 (Qn 8) (Qn 9)),Qa (Qv 4) (Qd (Qn 10))]
def Yni:MC:=.r0 Xyb
def Ynj:MC:=.cond (Qn 25) (.seq Ynf .ret) (.seq Yng (.cond (Qn 50) (.seq Ynh .ret) (.seq Yni .ret)))
def Ynk:MC:=.cond (Qn 11) (.seq Y80 .ret) (.seq (.seq Y81 (.cond (Qn 25) .skip Y82)) Ynj)
def Xyc:MC:=.seq Y8x (.seq Y8y (.blk 0 (.seq Y8z Ynk)))
attribute [go_sem] Ybt Ybu Ybv Ybw Ybx Yby Xx8 Xx9 Xya Xyb
theorem Wmn:KK QP 187 f187 [] Xyc [(RV.t 4)] 78:=by refine⟨func187,?_,?_,?_,?_⟩<;>kernel_rfl
theorem Y83:Xaa QP 187=true:=by kernel_rfl
theorem Ynl (h:GT QP gp [(RV.t 4)] pre R 78 Xyc args):Tri QP gp 187 args pre R:=Wmn.t h
-- f188: trC none
-- f189: trC none
-- f190: no body
-- f191: no body
-- f192: no body
-- f193: no body
-- f194: no body
-- f195: no body
-- f196: no body
-- f197: no body
-- f198: no body
-- f199: no body
-- f200: no body
-- f201: no body
-- f202: no body
-- f203: no body
-- f204: no body
-- f205: no body
-- f206: no body
-- f207: no body
-- f208: no body
-- f209: no body
-- f210: no body
-- f211: no body
-- f212: no body
-- f213: no body
-- f214: no body
-- f215: no body
-- f216: no body
-- f217: no body
-- f218: no body
-- f219: no body
-- f220: no body
-- f221: no body
-- f222: no body
-- f223: no body
-- f224: no body
-- f225: no body
end Go.Fw.L07
