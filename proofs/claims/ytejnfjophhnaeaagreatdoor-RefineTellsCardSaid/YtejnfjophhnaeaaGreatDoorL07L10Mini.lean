/- Small codes. -/
import Derived.Test.YtejnfjophhnaeaaGreatDoorFd
import Derived.Test.YtejnfjophhnaeaaGreatDoorProg
set_option linter.all false
namespace Go.Fw.L07
open Go Go.Fw
open Go.Proofs.Tryz renaming prog->QP
open Go.Proofs.Tryz (f12 f125 f14 f15 f16 f17 f18 f19 f3 f37 f38 f40 f41 f42 f43 f45 f48 f71 f73 f74 f75 f97 func12 func125 func14 func15 func16 func17 func18 func19 func3 func37 func38 func40 func41 func42 func43 func45 func48 func71 func73 func74 func75 func97)
open Go.Fw.MO renaming op->Qa,chk->Qb,opx->Qc
open Go.Fw.MOp renaming mv->Qd,bin->Qe,load->Qf,fad->Qg,call->Qh,ext->Qi,iad->Qj,len->Qk,store->Ql,pick->Qm
open Go.Fw.Opd renaming t->Qn,c->Qo
open Go.Fw.V renaming one->Qp
open Go.Fw.A renaming d->Qq
open Go.Fw.D renaming int->Qr,bool->Qs
open Go.Fw.Leaf renaming i->Qt
open Go.IntKind renaming i64->Qu
open Option renaming some->Qv
variable {gp:Xag} {args:List V} {res:V} {pre:List Ch} {R:V->List Ch->Prop}
def Wnf:List MO:=[
Qa (Qv 4) (MOp.box (Qn 0)),
Qa (Qv 5) (MOp.box (Qn 1)),
Qa (Qv 8) (Qd (Qo (Qp (Qq (Qs false)))))]
def Wtk:MC:=.r0 Wnf
def Wng:List MO:=[
Qa (Qv 22) (Qh 12 []),
Qa (Qv 9) (Qd (Qn 22))]
def Wtl:MC:=.r0 Wng
def Wnh:List MO:=[
Qa (Qv 23) (Qf 2 true (Qn 4)),
Qa (Qv 24) (Qh 13 [(Qn 23),(Qo (Qp (Qq (Qr Qu 14))))]),
Qa none (Ql 2 (Qn 4) (Qn 24))]
def Wtm:MC:=.r0 Wnh
def Wni:List MO:=[
Qa (Qv 25) (Qf 2 true (Qn 5)),
Qa (Qv 26) (Qh 13 [(Qn 25),(Qo (Qp (Qq (Qr Qu 14))))]),
Qa none (Ql 2 (Qn 5) (Qn 26))]
def Wtn:MC:=.r0 Wni
def Wnj:List MO:=[
Qa (Qv 28) (Qf 2 true (Qn 4)),
Qa (Qv 29) (Qh 14 [(Qn 28)]),
Qa (Qv 27) (Qd (Qn 29)),
Qa (Qv 30) (Qi (Qn 27) 0),
Qa (Qv 31) (Qi (Qn 27) 1),
Qa (Qv 10) (Qd (Qn 30)),
Qa (Qv 11) (Qd (Qn 31))]
def Wto:MC:=.r0 Wnj
def Wnk:List MO:=[
Qa (Qv 33) (Qf 2 true (Qn 4)),
Qa (Qv 34) (Qh 15 [(Qn 33)]),
Qa (Qv 32) (Qd (Qn 34)),
Qa (Qv 35) (Qi (Qn 32) 0),
Qa (Qv 36) (Qi (Qn 32) 1),
Qa (Qv 12) (Qd (Qn 35)),
Qa (Qv 13) (Qd (Qn 36))]
def Wtp:MC:=.r0 Wnk
def Wnl:List MO:=[
Qa (Qv 38) (Qf 2 true (Qn 4)),
Qa (Qv 39) (Qf 2 true (Qn 5)),
Qa (Qv 40) (Qh 16 [(Qn 38),(Qn 39)]),
Qa (Qv 37) (Qd (Qn 40)),
Qa (Qv 41) (Qi (Qn 37) 0),
Qa (Qv 42) (Qi (Qn 37) 1),
Qa (Qv 14) (Qd (Qn 41)),
Qa (Qv 15) (Qd (Qn 42))]
def Wtq:MC:=.r0 Wnl
def Wnm:List MO:=[
Qa (Qv 44) (Qf 2 true (Qn 4)),
Qa (Qv 45) (Qf 2 true (Qn 5)),
Qa (Qv 46) (Qh 17 [(Qn 44),(Qn 45)]),
Qa (Qv 43) (Qd (Qn 46)),
Qa (Qv 47) (Qi (Qn 43) 0),
Qa (Qv 48) (Qi (Qn 43) 1),
Qa (Qv 16) (Qd (Qn 47)),
Qa (Qv 17) (Qd (Qn 48))]
def Wtr:MC:=.r0 Wnm
def Wnn:List MO:=[
Qa (Qv 50) (Qf 2 true (Qn 4)),
Qa (Qv 51) (Qd (Qn 2)),
Qa (Qv 52) (Qd (Qn 3)),
Qa (Qv 53) (Qh 18 [(Qn 50),(Qn 51),(Qn 52)]),
Qa (Qv 49) (Qd (Qn 53)),
Qa (Qv 54) (Qi (Qn 49) 0),
Qa (Qv 55) (Qi (Qn 49) 1),
Qa (Qv 18) (Qd (Qn 54)),
Qa (Qv 19) (Qd (Qn 55))]
def Wts:MC:=.r0 Wnn
def Wno:List MO:=[
Qa (Qv 57) (Qf 2 true (Qn 4)),
Qa (Qv 58) (Qd (Qn 2)),
Qa (Qv 59) (Qd (Qn 3)),
Qa (Qv 60) (Qh 19 [(Qn 57),(Qn 58),(Qn 59)]),
Qa (Qv 56) (Qd (Qn 60)),
Qa (Qv 61) (Qi (Qn 56) 0),
Qa (Qv 62) (Qi (Qn 56) 1),
Qa (Qv 20) (Qd (Qn 61)),
Qa (Qv 21) (Qd (Qn 62))]
def Wtt:MC:=.r0 Wno
def Yss:List MO:=[
Qa (Qv 63) (Qd (Qn 9)),
Qa (Qv 64) (Qd (Qn 63)),
Qb 64 true (Qv 65),
Qa (Qv 65) (Qd (Qn 10)),
Qb 64 true (Qv 66),
Qa (Qv 66) (Qd (Qn 12)),
Qb 64 true (Qv 67),
Qa (Qv 67) (Qh 20 [(Qn 65),(Qn 66)]),
Qa (Qv 68) (Qm (Qn 64) (Qn 67) (Qo (Qp (Qq (Qs false))))),
Qa (Qv 69) (Qd (Qn 68)),
Qb 69 true (Qv 70),
Qa (Qv 70) (Qd (Qn 11)),
Qb 69 true (Qv 71),
Qa (Qv 71) (Qd (Qn 13)),
Qb 69 true (Qv 72),
Qa (Qv 72) (Qe Qt Go.BinOp.eql (Qn 70) (Qn 71)),
Qa (Qv 73) (Qm (Qn 69) (Qn 72) (Qo (Qp (Qq (Qs false))))),
Qa (Qv 74) (Qd (Qn 73)),
Qb 74 true (Qv 75),
Qa (Qv 75) (Qd (Qn 14)),
Qb 74 true (Qv 76),
Qa (Qv 76) (Qd (Qn 16)),
Qb 74 true (Qv 77),
Qa (Qv 77) (Qe Leaf.b Go.BinOp.eql (Qn 75) (Qn 76)),
Qa (Qv 78) (Qm (Qn 74) (Qn 77) (Qo (Qp (Qq (Qs false))))),
Qa (Qv 79) (Qd (Qn 78)),
Qb 79 true (Qv 80),
Qa (Qv 80) (Qd (Qn 15)),
Qb 79 true (Qv 81),
Qa (Qv 81) (Qd (Qn 17)),
Qb 79 true (Qv 82),
Qa (Qv 82) (Qe Qt Go.BinOp.eql (Qn 80) (Qn 81)),
Qa (Qv 83) (Qm (Qn 79) (Qn 82) (Qo (Qp (Qq (Qs false))))),
Qa (Qv 84) (Qd (Qn 83)),
Qb 84 true (Qv 85),
Qa (Qv 85) (Qd (Qn 18)),
Qb 84 true (Qv 86),
Qa (Qv 86) (Qd (Qn 20)),
Qb 84 true (Qv 87),
Qa (Qv 87) (Qh 20 [(Qn 85),(Qn 86)]),
Qa (Qv 88) (Qm (Qn 84) (Qn 87) (Qo (Qp (Qq (Qs false))))),
Qa (Qv 89) (Qd (Qn 88)),
Qb 89 true (Qv 90),
Qa (Qv 90) (Qd (Qn 19)),
Qb 89 true (Qv 91),
Qa (Qv 91) (Qd (Qn 21)),
Qb 89 true (Qv 92),
Qa (Qv 92) (Qe Leaf.b Go.BinOp.eql (Qn 90) (Qn 91)),
Qa (Qv 93) (Qm (Qn 89) (Qn 92) (Qo (Qp (Qq (Qs false))))),
Qa (Qv 8) (Qd (Qn 93))]
def Wnp:MC:=.r0 Yss
def Wnq:MC:=.seq Wtr (.seq Wts (.seq Wtt (.seq Wnp .ret)))
def Wnr:MC:=.seq Wto (.seq Wtp (.seq Wtq Wnq))
def Wns:MC:=.seq Wtl (.seq Wtm (.seq Wtn Wnr))
def Yst:MC:=.seq Wtk Wns
attribute [go_sem] Wnf Wng Wnh Wni Wnj Wnk Wnl Wnm Wnn Wno Yss
theorem Wvj:KK QP 3 f3 [] Yst [(RV.t 8)] 94:=by refine⟨func3,?_,?_,?_,?_⟩<;>kernel_rfl
theorem Wtu:Xaa QP 3=true:=by kernel_rfl
theorem Wtv (h:GI QP gp [(RV.t 8)] res 94 Yst args):Xam QP gp 3 args res:=Wvj.i Wtu h
def Ysu:List MO:=[
Qa (Qv 0) (Qd (Qo (Qp (Qq (Qs false)))))]
def Wnt:MC:=.r0 Ysu
def Ysv:List MO:=[
Qa (Qv 12) (MOp.bslice 1 [(Qr Qu 0)] 1 [(0,(Qo (Qp (Qq (Qr Qu 1)))))]),
Qa (Qv 13) (MOp.build [(Qr Qu 0),(Qr Qu 0),(Qr Qu 0),(D.str (ByteArray.mk #[])),(D.sl []),(D.sl [])] [(0,(1,(Qo (Qp (Qq (Qr Qu 1)))))),(5,(1,(Qn 12)))]),
Qa (Qv 14) (MOp.bslice 1 [(Qr Qu 0)] 1 [(0,(Qo (Qp (Qq (Qr Qu 0)))))]),
Qa (Qv 15) (MOp.build [(Qr Qu 0),(Qr Qu 0),(Qr Qu 0),(D.str (ByteArray.mk #[])),(D.sl []),(D.sl [])] [(0,(1,(Qo (Qp (Qq (Qr Qu 1)))))),(5,(1,(Qn 14)))]),
Qa (Qv 16) (MOp.bslice 1 [(Qr Qu 0)] 1 [(0,(Qo (Qp (Qq (Qr Qu 2)))))]),
Qa (Qv 17) (MOp.build [(Qr Qu 0),(Qr Qu 0),(Qr Qu 0),(D.str (ByteArray.mk #[])),(D.sl []),(D.sl [])] [(0,(1,(Qo (Qp (Qq (Qr Qu 1)))))),(5,(1,(Qn 16)))]),
Qa (Qv 18) (MOp.build [(Qr Qu 0),(Qr Qu 0),(Qr Qu 0),(D.str (ByteArray.mk #[])),(D.sl []),(D.sl [])] [(0,(1,(Qo (Qp (Qq (Qr Qu 1))))))]),
Qa (Qv 19) (MOp.bslice 6 [(Qr Qu 0),(Qr Qu 0),(Qr Qu 0),(D.str (ByteArray.mk #[])),(D.sl []),(D.sl [])] 4 [(0,(Qn 13)),(1,(Qn 15)),(2,(Qn 17)),(3,(Qn 18))]),
Qa (Qv 20) (MOp.build [(Qr Qu 0),(D.sl [])] [(1,(1,(Qn 19)))]),
Qa (Qv 1) (MOp.alloc [(Qr Qu 0),(D.sl [])]),
Qa none (Ql 2 (Qn 1) (Qn 20))]
def Wnu:MC:=.r0 Ysv
def Ysw:List MO:=[
Qa (Qv 22) (Qf 2 true (Qn 1)),
Qa (Qv 23) (Qh 14 [(Qn 22)]),
Qa (Qv 21) (Qd (Qn 23)),
Qa (Qv 24) (Qi (Qn 21) 0),
Qa (Qv 25) (Qi (Qn 21) 1),
Qa (Qv 2) (Qd (Qn 24)),
Qa (Qv 3) (Qd (Qn 25))]
def Wnv:MC:=.r0 Ysw
def Ysx:List MO:=[
Qa (Qv 27) (Qf 2 true (Qn 1)),
Qa (Qv 28) (MOp.bslice 1 [(Qr Qu 0)] 1 [(0,(Qo (Qp (Qq (Qr Qu 0)))))]),
Qa (Qv 29) (MOp.build [(Qr Qu 0),(Qr Qu 0),(Qr Qu 0),(D.str (ByteArray.mk #[])),(D.sl []),(D.sl [])] [(0,(1,(Qo (Qp (Qq (Qr Qu 1)))))),(5,(1,(Qn 28)))]),
Qa (Qv 30) (MOp.bslice 6 [(Qr Qu 0),(Qr Qu 0),(Qr Qu 0),(D.str (ByteArray.mk #[])),(D.sl []),(D.sl [])] 1 [(0,(Qn 29))]),
Qa (Qv 31) (MOp.build [(Qr Qu 0),(D.sl [])] [(1,(1,(Qn 30)))]),
Qa (Qv 32) (Qh 16 [(Qn 27),(Qn 31)]),
Qa (Qv 26) (Qd (Qn 32)),
Qa (Qv 33) (Qi (Qn 26) 0),
Qa (Qv 34) (Qi (Qn 26) 1),
Qa (Qv 4) (Qd (Qn 33)),
Qa (Qv 5) (Qd (Qn 34))]
def Wnw:MC:=.r0 Ysx
def Ysy:List MO:=[
Qa (Qv 36) (Qf 2 true (Qn 1)),
Qa (Qv 37) (MOp.build [(Qr Qu 0),(Qr Qu 0),(Qr Qu 0),(D.str (ByteArray.mk #[])),(D.sl []),(D.sl [])] [(0,(1,(Qo (Qp (Qq (Qr Qu 1))))))]),
Qa (Qv 38) (MOp.bslice 6 [(Qr Qu 0),(Qr Qu 0),(Qr Qu 0),(D.str (ByteArray.mk #[])),(D.sl []),(D.sl [])] 1 [(0,(Qn 37))]),
Qa (Qv 39) (MOp.build [(Qr Qu 0),(D.sl [])] [(1,(1,(Qn 38)))]),
Qa (Qv 40) (Qh 16 [(Qn 36),(Qn 39)]),
Qa (Qv 35) (Qd (Qn 40)),
Qa (Qv 41) (Qi (Qn 35) 0),
Qa (Qv 42) (Qi (Qn 35) 1),
Qa (Qv 6) (Qd (Qn 41)),
Qa (Qv 7) (Qd (Qn 42))]
def Wnx:MC:=.r0 Ysy
def Ysz:List MO:=[
Qa (Qv 44) (Qf 2 true (Qn 1)),
Qa (Qv 45) (Qh 18 [(Qn 44),(Qo (Qp (Qq (Qr Qu 0)))),(Qo (Qp (Qq (Qr Qu 3))))]),
Qa (Qv 43) (Qd (Qn 45)),
Qa (Qv 46) (Qi (Qn 43) 0),
Qa (Qv 47) (Qi (Qn 43) 1),
Qa (Qv 8) (Qd (Qn 46)),
Qa (Qv 9) (Qd (Qn 47))]
def Wny:MC:=.r0 Ysz
def Ys0:List MO:=[
Qa (Qv 49) (MOp.build [(Qr Qu 0),(D.sl [])] []),
Qa (Qv 50) (Qh 14 [(Qn 49)]),
Qa (Qv 48) (Qd (Qn 50)),
Qa (Qv 51) (Qi (Qn 48) 0),
Qa (Qv 52) (Qi (Qn 48) 1),
Qa (Qv 10) (Qd (Qn 51)),
Qa (Qv 11) (Qd (Qn 52))]
def Wnz:MC:=.r0 Ys0
def Ys1:List MO:=[
Qa (Qv 53) (Qd (Qn 3)),
Qa (Qv 54) (Qe Qt Go.BinOp.eql (Qn 53) (Qo (Qp (Qq (Qr Qu 0))))),
Qa (Qv 55) (Qd (Qn 54)),
Qb 55 true (Qv 56),
Qa (Qv 56) (Qd (Qn 2)),
Qb 55 true (Qv 57),
Qa (Qv 57) (MOp.bslice 1 [(Qr Qu 0)] 4 [(0,(Qo (Qp (Qq (Qr Qu 0))))),(1,(Qo (Qp (Qq (Qr Qu 0))))),(2,(Qo (Qp (Qq (Qr Qu 0))))),(3,(Qo (Qp (Qq (Qr Qu 1)))))]),
Qb 55 true (Qv 58),
Qa (Qv 58) (Qh 20 [(Qn 56),(Qn 57)]),
Qa (Qv 59) (Qm (Qn 55) (Qn 58) (Qo (Qp (Qq (Qs false))))),
Qa (Qv 60) (Qd (Qn 59)),
Qb 60 true (Qv 61),
Qa (Qv 61) (Qd (Qn 4)),
Qa (Qv 62) (Qm (Qn 60) (Qn 61) (Qo (Qp (Qq (Qs false))))),
Qa (Qv 63) (Qd (Qn 62)),
Qb 63 true (Qv 64),
Qa (Qv 64) (Qd (Qn 5)),
Qb 63 true (Qv 65),
Qa (Qv 65) (Qe Qt Go.BinOp.eql (Qn 64) (Qo (Qp (Qq (Qr Qu 0))))),
Qa (Qv 66) (Qm (Qn 63) (Qn 65) (Qo (Qp (Qq (Qs false))))),
Qa (Qv 67) (Qd (Qn 66)),
Qb 67 true (Qv 68),
Qa (Qv 68) (Qd (Qn 6)),
Qb 67 true (Qv 69),
Qa (Qv 69) (MOp.not (Qn 68)),
Qa (Qv 70) (Qm (Qn 67) (Qn 69) (Qo (Qp (Qq (Qs false))))),
Qa (Qv 71) (Qd (Qn 70)),
Qb 71 true (Qv 72),
Qa (Qv 72) (Qd (Qn 7)),
Qb 71 true (Qv 73),
Qa (Qv 73) (Qe Qt Go.BinOp.eql (Qn 72) (Qo (Qp (Qq (Qr Qu 0))))),
Qa (Qv 74) (Qm (Qn 71) (Qn 73) (Qo (Qp (Qq (Qs false))))),
Qa (Qv 75) (Qd (Qn 74)),
Qb 75 true (Qv 76),
Qa (Qv 76) (Qd (Qn 8)),
Qb 75 true (Qv 77),
Qa (Qv 77) (Qk Qt (Qn 76)),
Qb 75 true (Qv 78),
Qa (Qv 78) (Qe Qt Go.BinOp.eql (Qn 77) (Qo (Qp (Qq (Qr Qu 0))))),
Qa (Qv 79) (Qm (Qn 75) (Qn 78) (Qo (Qp (Qq (Qs false))))),
Qa (Qv 80) (Qd (Qn 79)),
Qb 80 true (Qv 81),
Qa (Qv 81) (Qd (Qn 9)),
Qa (Qv 82) (Qm (Qn 80) (Qn 81) (Qo (Qp (Qq (Qs false))))),
Qa (Qv 83) (Qd (Qn 82)),
Qb 83 true (Qv 84),
Qa (Qv 84) (Qd (Qn 11)),
Qb 83 true (Qv 85),
Qa (Qv 85) (Qe Qt Go.BinOp.eql (Qn 84) (Qo (Qp (Qq (Qr Qu 70))))),
Qa (Qv 86) (Qm (Qn 83) (Qn 85) (Qo (Qp (Qq (Qs false))))),
Qa (Qv 0) (Qd (Qn 86))]
def Wn0:MC:=.r0 Ys1
def Y9j:MC:=.seq Wnx (.seq Wny (.seq Wnz (.seq Wn0 .ret)))
def Y9k:MC:=.seq Wnu (.seq Wnv (.seq Wnw Y9j))
def Ycv:MC:=.seq Wnt Y9k
attribute [go_sem] Ysu Ysv Ysw Ysx Ysy Ysz Ys0 Ys1
theorem Wtw:KK QP 12 f12 [] Ycv [(RV.t 0)] 87:=by refine⟨func12,?_,?_,?_,?_⟩<;>kernel_rfl
theorem Wn1:Xaa QP 12=true:=by kernel_rfl
theorem Wn2 (h:GI QP gp [(RV.t 0)] res 87 Ycv args):Xam QP gp 12 args res:=Wtw.i Wn1 h
def Ys2:List MO:=[
Qa (Qv 1) (MOp.ibox (Qn 0)),
Qa (Qv 2) (Qd (Qo (Qp A.nil))),
Qa (Qv 3) (Qd (Qo (Qp (Qq (Qr Qu 0)))))]
def Wn3:MC:=.r0 Ys2
def Ys3:List MO:=[
Qa (Qv 7) (Qf 2 true (Qn 1)),
Qa (Qv 8) (Qh 36 [(Qn 7)]),
Qa (Qv 6) (Qd (Qn 8)),
Qa (Qv 9) (Qi (Qn 6) 0),
Qa (Qv 10) (Qi (Qn 6) 1),
Qa (Qv 4) (Qd (Qn 9)),
Qa (Qv 5) (Qd (Qn 10))]
def Wn4:MC:=.r0 Ys3
def Ys4:List MO:=[
Qa (Qv 11) (Qd (Qn 5)),
Qa (Qv 12) (Qe Qt Go.BinOp.neq (Qn 11) (Qo (Qp (Qq (Qr Qu 0)))))]
def Wn5:MC:=.r0 Ys4
def Ys5:List MO:=[
Qa (Qv 13) (Qd (Qn 5)),
Qa (Qv 2) (Qd (Qo (Qp A.nil))),
Qa (Qv 3) (Qd (Qn 13))]
def Wn6:MC:=.r0 Ys5
def Ycw:List MO:=[
Qa (Qv 14) (Qf 2 true (Qn 1)),
Qa (Qv 15) (Qh 37 [(Qn 14)]),
Qa (Qv 16) (Qh 38 [(Qn 15)]),
Qa (Qv 2) (Qd (Qn 16)),
Qa (Qv 3) (Qd (Qo (Qp (Qq (Qr Qu 0)))))]
def Y9l:MC:=.r0 Ycw
def Y9m:MC:=.seq (.seq Wn4 (.seq Wn5 (.cond (Qn 12) (.seq Wn6 .ret) .skip))) (.seq Y9l .ret)
def Ycx:MC:=.seq Wn3 Y9m
attribute [go_sem] Ys2 Ys3 Ys4 Ys5 Ycw
theorem Wtx:KK QP 14 f14 [1] Ycx [(RV.t 2),(RV.t 3)] 17:=by refine⟨func14,?_,?_,?_,?_⟩<;>kernel_rfl
theorem Wn7:Xaa QP 14=true:=by kernel_rfl
theorem Wn8 (h:GI QP gp [(RV.t 2),(RV.t 3)] res 17 Ycx args):Xam QP gp 14 args res:=Wtx.i Wn7 h
def Ys6:List MO:=[
Qa (Qv 1) (MOp.ibox (Qn 0)),
Qa (Qv 2) (Qd (Qo (Qp A.nil))),
Qa (Qv 3) (Qd (Qo (Qp (Qq (Qr Qu 0)))))]
def Wn9:MC:=.r0 Ys6
def Ys7:List MO:=[
Qa (Qv 13) (Qf 2 true (Qn 1)),
Qa (Qv 14) (Qh 39 [(Qn 13)]),
Qa (Qv 12) (Qd (Qn 14)),
Qa (Qv 15) (Qi (Qn 12) 0),
Qa (Qv 16) (Qi (Qn 12) 1),
Qa (Qv 4) (Qd (Qn 15)),
Qa (Qv 5) (Qd (Qn 16))]
def Woa:MC:=.r0 Ys7
def Ys8:List MO:=[
Qa (Qv 17) (Qd (Qn 5)),
Qa (Qv 18) (Qe Qt Go.BinOp.neq (Qn 17) (Qo (Qp (Qq (Qr Qu 0)))))]
def Wob:MC:=.r0 Ys8
def Ys9:List MO:=[
Qa (Qv 19) (Qd (Qn 5)),
Qa (Qv 2) (Qd (Qo (Qp A.nil))),
Qa (Qv 3) (Qd (Qn 19))]
def Woc:MC:=.r0 Ys9
def Yta:List MO:=[
Qa (Qv 20) (Qf 2 true (Qn 1)),
Qa (Qv 21) (Qh 40 [(Qn 20)]),
Qa (Qv 6) (Qd (Qn 21))]
def Wod:MC:=.r0 Yta
def Ycy:List MO:=[
Qa (Qv 7) (Qd (Qo (Qp A.nil)))]
def Y9n:MC:=.r0 Ycy
def Ycz:List MO:=[
Qa (Qv 8) (Qd (Qo (Qp (Qq (Qr Qu 0)))))]
def Y9o:MC:=.r0 Ycz
def Yc0:List MO:=[
Qa (Qv 9) (Qd (Qo (Qp (Qq (Qr Qu 0)))))]
def Y9p:MC:=.r0 Yc0
def Yc1:List MO:=[
Qa (Qv 22) (Qd (Qn 9)),
Qa (Qv 23) (Qg 1 (Qn 1)),
Qa (Qv 24) (Qf 1 false (Qn 23)),
Qa (Qv 25) (Qk Qt (Qn 24)),
Qa (Qv 26) (Qe Qt Go.BinOp.lss (Qn 22) (Qn 25))]
def Y9q:MC:=.r0 Yc1
def Yc2:List MO:=[
Qa (Qv 29) (Qd (Qn 8)),
Qa (Qv 10) (Qd (Qn 29))]
def Y9r:MC:=.r0 Yc2
def Yc3:List MO:=[
Qa (Qv 30) (Qd (Qn 9)),
Qa (Qv 31) (Qe Qt Go.BinOp.sub (Qn 30) (Qo (Qp (Qq (Qr Qu 1))))),
Qa (Qv 11) (Qd (Qn 31))]
def Y9s:MC:=.r0 Yc3
def Yc4:List MO:=[
Qa (Qv 32) (Qd (Qn 11)),
Qa (Qv 33) (Qe Qt Go.BinOp.geq (Qn 32) (Qo (Qp (Qq (Qr Qu 0)))))]
def Y9t:MC:=.r0 Yc4
def Yc5:List MO:=[
Qa (Qv 36) (Qd (Qn 6)),
Qa (Qv 37) (Qd (Qn 9)),
Qa (Qv 38) (Qj 1 (Qn 36) (Qn 37)),
Qa (Qv 39) (Qf 1 false (Qn 38)),
Qa (Qv 40) (Qd (Qn 11)),
Qa (Qv 41) (Qj 1 (Qn 39) (Qn 40)),
Qa (Qv 42) (Qf 1 false (Qn 41))]
def Y9u:MC:=.r0 Yc5
def Yc6:List MO:=[
Qa (Qv 43) (Qd (Qn 7)),
Qa (Qv 44) (Qd (Qn 11)),
Qa (Qv 45) (Qj 1 (Qn 43) (Qn 44)),
Qa (Qv 46) (Qf 1 false (Qn 45)),
Qa (Qv 10) (Qd (Qn 46))]
def Y9v:MC:=.r0 Yc6
def Yc7:List MO:=[
Qa (Qv 34) (Qd (Qn 11)),
Qa (Qv 35) (Qe Qt Go.BinOp.sub (Qn 34) (Qo (Qp (Qq (Qr Qu 1))))),
Qa (Qv 11) (Qd (Qn 35))]
def Y9w:MC:=.r0 Yc7
def Y9x:MC:=.seq (.seq Y9t (.cond (Qn 33) .skip (MC.exit 2))) (.seq (.blk 3 (.seq Y9u (.cond (Qn 42) Y9v .skip))) Y9w)
def Yc8:List MO:=[
Qa (Qv 47) (Qd (Qn 10)),
Qa (Qv 48) (Qd (Qn 8)),
Qa (Qv 49) (Qe Qt Go.BinOp.eql (Qn 47) (Qn 48))]
def Y9y:MC:=.r0 Yc8
def Yc9:List MO:=[
Qa (Qv 50) (Qd (Qn 8)),
Qa (Qv 51) (Qe Qt Go.BinOp.add (Qn 50) (Qo (Qp (Qq (Qr Qu 1))))),
Qa (Qv 8) (Qd (Qn 51))]
def Y9z:MC:=.r0 Yc9
def Yda:List MO:=[
Qa (Qv 52) (Qd (Qn 7)),
Qa (Qv 53) (Qd (Qn 10)),
Qa (Qv 54) (MOp.bslice 1 [(Qr Qu 0)] 1 [(0,(Qn 53))]),
Qa (Qv 55) (MOp.app 3 1 8 (Qn 52) (Qn 54)),
Qa (Qv 7) (Qd (Qn 55))]
def Y90:MC:=.r0 Yda
def Y91:MC:=.seq (.seq Y9s (.blk 2 (.loop Y9x))) (.seq (.seq Y9y (.cond (Qn 49) Y9z .skip)) Y90)
def Ydb:List MO:=[
Qa (Qv 27) (Qd (Qn 9)),
Qa (Qv 28) (Qe Qt Go.BinOp.add (Qn 27) (Qo (Qp (Qq (Qr Qu 1))))),
Qa (Qv 9) (Qd (Qn 28))]
def Y92:MC:=.r0 Ydb
def Y93:MC:=.seq (.seq Y9q (.cond (Qn 26) .skip (MC.exit 0))) (.seq (.blk 1 (.seq Y9r Y91)) Y92)
def Ydc:List MO:=[
Qa (Qv 56) (Qd (Qn 7)),
Qa (Qv 2) (Qd (Qn 56)),
Qa (Qv 3) (Qd (Qo (Qp (Qq (Qr Qu 0)))))]
def Y94:MC:=.r0 Ydc
def Y95:MC:=.seq Y9o (.seq (.seq Y9p (.blk 0 (.loop Y93))) (.seq Y94 .ret))
def Y96:MC:=.seq (.seq Wob (.cond (Qn 18) (.seq Woc .ret) .skip)) (.seq Wod (.seq Y9n Y95))
def Ydd:MC:=.seq Wn9 (.seq Woa Y96)
attribute [go_sem] Ys6 Ys7 Ys8 Ys9 Yta Ycy Ycz Yc0 Yc1 Yc2 Yc3 Yc4 Yc5 Yc6 Yc7 Yc8 Yc9 Yda Ydb Ydc
theorem Wty:KK QP 15 f15 [1] Ydd [(RV.t 2),(RV.t 3)] 57:=by refine⟨func15,?_,?_,?_,?_⟩<;>kernel_rfl
theorem Woe:Xaa QP 15=true:=by kernel_rfl
theorem Wof (h:GI QP gp [(RV.t 2),(RV.t 3)] res 57 Ydd args):Xam QP gp 15 args res:=Wty.i Woe h
def Ytb:List MO:=[
Qa (Qv 2) (MOp.ibox (Qn 0)),
Qa (Qv 3) (MOp.ibox (Qn 1)),
Qa (Qv 4) (Qd (Qo (Qp (Qq (Qs false))))),
Qa (Qv 5) (Qd (Qo (Qp (Qq (Qr Qu 0)))))]
def Wog:MC:=.r0 Ytb
def Ytc:List MO:=[
Qa (Qv 11) (Qf 2 true (Qn 2)),
Qa (Qv 12) (Qf 2 true (Qn 3)),
Qa (Qv 13) (MOp.bslice 2 [(Qr Qu 0),(D.sl [])] 2 [(0,(Qn 11)),(1,(Qn 12))]),
Qa (Qv 14) (Qk Qt (Qn 13)),
Qa (Qv 15) (Qd (Qo (Qp (Qq (Qr Qu 0)))))]
def Woh:MC:=.r0 Ytc
def Ytd:List MO:=[
Qa (Qv 16) (Qe Qt Go.BinOp.lss (Qn 15) (Qn 14))]
def Woi:MC:=.r0 Ytd
def Yte:List MO:=[
Qa (Qv 17) (Qj 2 (Qn 13) (Qn 15)),
Qa (Qv 18) (Qf 2 true (Qn 17)),
Qa (Qv 7) (MOp.alloc [(Qr Qu 0),(D.sl [])]),
Qa none (Ql 2 (Qn 7) (Qn 18))]
def Woj:MC:=.r0 Yte
def Ytf:List MO:=[
Qa (Qv 20) (Qf 2 true (Qn 7)),
Qa (Qv 21) (Qh 36 [(Qn 20)]),
Qa (Qv 19) (Qd (Qn 21)),
Qa (Qv 22) (Qi (Qn 19) 0),
Qa (Qv 23) (Qi (Qn 19) 1),
Qa (Qv 8) (Qd (Qn 22)),
Qa (Qv 9) (Qd (Qn 23))]
def Wok:MC:=.r0 Ytf
def Ytg:List MO:=[
Qa (Qv 24) (Qd (Qn 9)),
Qa (Qv 25) (Qe Qt Go.BinOp.neq (Qn 24) (Qo (Qp (Qq (Qr Qu 0)))))]
def Wol:MC:=.r0 Ytg
def Yth:List MO:=[
Qa (Qv 26) (Qd (Qn 9)),
Qa (Qv 4) (Qd (Qo (Qp (Qq (Qs false))))),
Qa (Qv 5) (Qd (Qn 26))]
def Wom:MC:=.r0 Yth
def Y97:MC:=.seq Woj (.seq Wok (.seq Wol (.cond (Qn 25) (.seq Wom .ret) .skip)))
def Yde:List MO:=[
Qa (Qv 27) (Qe Qt Go.BinOp.add (Qn 15) (Qo (Qp (Qq (Qr Qu 1))))),
Qa (Qv 15) (Qd (Qn 27))]
def Y98:MC:=.r0 Yde
def Y99:MC:=.seq Woh (.blk 0 (.loop (.seq Woi (.seq (.cond (Qn 16) .skip (MC.exit 0)) (.seq (.blk 1 Y97) Y98)))))
def Ydf:List MO:=[
Qa (Qv 28) (Qf 2 true (Qn 2)),
Qa (Qv 29) (Qf 2 true (Qn 3)),
Qa (Qv 30) (Qh 41 [(Qn 28),(Qn 29)]),
Qa (Qv 31) (Qh 37 [(Qn 30)]),
Qa (Qv 32) (Qh 38 [(Qn 31)]),
Qa (Qv 10) (Qd (Qn 32))]
def Waa:MC:=.r0 Ydf
def Ydg:List MO:=[
Qa (Qv 33) (Qd (Qn 10)),
Qa (Qv 34) (Qg 0 (Qn 2)),
Qa (Qv 35) (Qf 1 false (Qn 34)),
Qa (Qv 36) (Qj 1 (Qn 33) (Qn 35)),
Qa (Qv 37) (Qf 1 false (Qn 36)),
Qa (Qv 38) (Qd (Qn 10)),
Qa (Qv 39) (Qg 0 (Qn 3)),
Qa (Qv 40) (Qf 1 false (Qn 39)),
Qa (Qv 41) (Qg 1 (Qn 2)),
Qa (Qv 42) (Qf 1 false (Qn 41)),
Qa (Qv 43) (Qk Qt (Qn 42)),
Qa (Qv 44) (Qe Qt Go.BinOp.add (Qn 40) (Qn 43)),
Qa (Qv 45) (Qj 1 (Qn 38) (Qn 44)),
Qa (Qv 46) (Qf 1 false (Qn 45)),
Qa (Qv 47) (Qe Qt Go.BinOp.eql (Qn 37) (Qn 46)),
Qa (Qv 4) (Qd (Qn 47)),
Qa (Qv 5) (Qd (Qo (Qp (Qq (Qr Qu 0)))))]
def Wab:MC:=.reg true Ydg
def Ydh:MC:=.seq Wog (.seq Y99 (.seq Waa (.seq Wab .ret)))
attribute [go_sem] Ytb Ytc Ytd Yte Ytf Ytg Yth Yde Ydf Ydg
theorem Wtz:KK QP 16 f16 [2,3] Ydh [(RV.t 4),(RV.t 5)] 48:=by refine⟨func16,?_,?_,?_,?_⟩<;>kernel_rfl
theorem Won:Xaa QP 16=true:=by kernel_rfl
theorem Woo (h:GI QP gp [(RV.t 4),(RV.t 5)] res 48 Ydh args):Xam QP gp 16 args res:=Wtz.i Won h
def Yti:List MO:=[
Qa (Qv 2) (MOp.ibox (Qn 0)),
Qa (Qv 3) (MOp.ibox (Qn 1)),
Qa (Qv 4) (Qd (Qo (Qp (Qq (Qs false))))),
Qa (Qv 5) (Qd (Qo (Qp (Qq (Qr Qu 0)))))]
def Wop:MC:=.r0 Yti
def Ytj:List MO:=[
Qa (Qv 12) (Qf 2 true (Qn 2)),
Qa (Qv 13) (Qh 39 [(Qn 12)]),
Qa (Qv 11) (Qd (Qn 13)),
Qa (Qv 14) (Qi (Qn 11) 0),
Qa (Qv 15) (Qi (Qn 11) 1),
Qa (Qv 6) (Qd (Qn 14)),
Qa (Qv 7) (Qd (Qn 15))]
def Woq:MC:=.r0 Ytj
def Ytk:List MO:=[
Qa (Qv 17) (Qf 2 true (Qn 3)),
Qa (Qv 18) (Qh 39 [(Qn 17)]),
Qa (Qv 16) (Qd (Qn 18)),
Qa (Qv 19) (Qi (Qn 16) 0),
Qa (Qv 20) (Qi (Qn 16) 1),
Qa (Qv 8) (Qd (Qn 19)),
Qa (Qv 9) (Qd (Qn 20))]
def Wor:MC:=.r0 Ytk
def Ytl:List MO:=[
Qa (Qv 21) (Qd (Qn 7)),
Qa (Qv 22) (Qe Qt Go.BinOp.neq (Qn 21) (Qo (Qp (Qq (Qr Qu 0)))))]
def Wos:MC:=.r0 Ytl
def Ytm:List MO:=[
Qa (Qv 23) (Qd (Qn 7)),
Qa (Qv 4) (Qd (Qo (Qp (Qq (Qs false))))),
Qa (Qv 5) (Qd (Qn 23))]
def Wot:MC:=.r0 Ytm
def Ydi:List MO:=[
Qa (Qv 24) (Qd (Qn 9)),
Qa (Qv 25) (Qe Qt Go.BinOp.neq (Qn 24) (Qo (Qp (Qq (Qr Qu 0)))))]
def Wac:MC:=.r0 Ydi
def Ydj:List MO:=[
Qa (Qv 26) (Qd (Qn 9)),
Qa (Qv 4) (Qd (Qo (Qp (Qq (Qs false))))),
Qa (Qv 5) (Qd (Qn 26))]
def Wad:MC:=.r0 Ydj
def Ydk:List MO:=[
Qa (Qv 27) (Qf 2 true (Qn 2)),
Qa (Qv 28) (Qf 2 true (Qn 3)),
Qa (Qv 29) (Qh 42 [(Qn 27),(Qn 28)]),
Qa (Qv 30) (Qh 40 [(Qn 29)]),
Qa (Qv 10) (Qd (Qn 30))]
def Wae:MC:=.r0 Ydk
def Ydl:List MO:=[
Qa (Qv 31) (Qd (Qn 10)),
Qa (Qv 32) (Qg 0 (Qn 2)),
Qa (Qv 33) (Qf 1 false (Qn 32)),
Qa (Qv 34) (Qj 1 (Qn 31) (Qn 33)),
Qa (Qv 35) (Qf 1 false (Qn 34)),
Qa (Qv 36) (Qg 0 (Qn 3)),
Qa (Qv 37) (Qf 1 false (Qn 36)),
Qa (Qv 38) (Qg 1 (Qn 2)),
Qa (Qv 39) (Qf 1 false (Qn 38)),
Qa (Qv 40) (Qk Qt (Qn 39)),
Qa (Qv 41) (Qe Qt Go.BinOp.add (Qn 37) (Qn 40)),
Qa (Qv 42) (Qj 1 (Qn 35) (Qn 41)),
Qa (Qv 43) (Qf 1 false (Qn 42)),
Qa (Qv 4) (Qd (Qn 43)),
Qa (Qv 5) (Qd (Qo (Qp (Qq (Qr Qu 0)))))]
def Waf:MC:=.reg true Ydl
def Wag:MC:=.seq (.seq Wac (.cond (Qn 25) (.seq Wad .ret) .skip)) (.seq Wae (.seq Waf .ret))
def Wah:MC:=.seq Wor (.seq (.seq Wos (.cond (Qn 22) (.seq Wot .ret) .skip)) Wag)
def Ydm:MC:=.seq Wop (.seq Woq Wah)
attribute [go_sem] Yti Ytj Ytk Ytl Ytm Ydi Ydj Ydk Ydl
theorem Wt0:KK QP 17 f17 [2,3] Ydm [(RV.t 4),(RV.t 5)] 44:=by refine⟨func17,?_,?_,?_,?_⟩<;>kernel_rfl
theorem Wou:Xaa QP 17=true:=by kernel_rfl
theorem Wov (h:GI QP gp [(RV.t 4),(RV.t 5)] res 44 Ydm args):Xam QP gp 17 args res:=Wt0.i Wou h
def Ytn:List MO:=[
Qa (Qv 3) (MOp.ibox (Qn 0)),
Qa (Qv 6) (Qd (Qo (Qp A.nil))),
Qa (Qv 7) (Qd (Qo (Qp (Qq (Qs false)))))]
def Wow:MC:=.r0 Ytn
def Yto:List MO:=[
Qa (Qv 21) (Qf 2 true (Qn 3)),
Qa (Qv 22) (Qh 36 [(Qn 21)]),
Qa (Qv 20) (Qd (Qn 22)),
Qa (Qv 23) (Qi (Qn 20) 0),
Qa (Qv 24) (Qi (Qn 20) 1),
Qa (Qv 8) (Qd (Qn 23)),
Qa (Qv 9) (Qd (Qn 24))]
def Wox:MC:=.r0 Yto
def Ytp:List MO:=[
Qa (Qv 25) (Qd (Qn 9)),
Qa (Qv 26) (Qe Qt Go.BinOp.neq (Qn 25) (Qo (Qp (Qq (Qr Qu 0))))),
Qa (Qv 27) (Qd (Qn 26)),
Qb 27 false (Qv 28),
Qa (Qv 28) (Qd (Qn 1)),
Qb 27 false (Qv 29),
Qa (Qv 29) (Qe Qt Go.BinOp.lss (Qn 28) (Qo (Qp (Qq (Qr Qu 0))))),
Qa (Qv 30) (Qm (Qn 27) (Qo (Qp (Qq (Qs true)))) (Qn 29)),
Qa (Qv 31) (Qd (Qn 30)),
Qb 31 false (Qv 32),
Qa (Qv 32) (Qd (Qn 2)),
Qb 31 false (Qv 33),
Qa (Qv 33) (Qe Qt Go.BinOp.lss (Qn 32) (Qo (Qp (Qq (Qr Qu 0))))),
Qa (Qv 34) (Qm (Qn 31) (Qo (Qp (Qq (Qs true)))) (Qn 33)),
Qa (Qv 35) (Qd (Qn 34)),
Qb 35 false (Qv 36),
Qa (Qv 36) (Qd (Qn 1)),
Qb 35 false (Qv 37),
Qa (Qv 37) (Qg 1 (Qn 3)),
Qb 35 false (Qv 38),
Qa (Qv 38) (Qf 1 false (Qn 37)),
Qb 35 false (Qv 39),
Qa (Qv 39) (Qk Qt (Qn 38)),
Qb 35 false (Qv 40),
Qa (Qv 40) (Qe Qt Go.BinOp.geq (Qn 36) (Qn 39)),
Qa (Qv 41) (Qm (Qn 35) (Qo (Qp (Qq (Qs true)))) (Qn 40)),
Qa (Qv 42) (Qd (Qn 41)),
Qb 42 false (Qv 43),
Qa (Qv 43) (Qd (Qn 2)),
Qb 42 false (Qv 44),
Qa (Qv 44) (Qg 1 (Qn 3)),
Qb 42 false (Qv 45),
Qa (Qv 45) (Qf 1 false (Qn 44)),
Qb 42 false (Qv 46),
Qa (Qv 46) (Qk Qt (Qn 45)),
Qb 42 false (Qv 47),
Qa (Qv 47) (Qe Qt Go.BinOp.geq (Qn 43) (Qn 46)),
Qa (Qv 48) (Qm (Qn 42) (Qo (Qp (Qq (Qs true)))) (Qn 47))]
def Woy:MC:=.r0 Ytp
def Ytq:List MO:=[
Qa (Qv 6) (Qd (Qo (Qp A.nil))),
Qa (Qv 7) (Qd (Qo (Qp (Qq (Qs false)))))]
def Woz:MC:=.r0 Ytq
def Ydn:List MO:=[
Qa (Qv 49) (Qf 2 true (Qn 3)),
Qa (Qv 50) (Qh 37 [(Qn 49)]),
Qa (Qv 10) (Qd (Qn 50))]
def Wai:MC:=.r0 Ydn
def Ydo:List MO:=[
Qa (Qv 51) (Qd (Qn 1)),
Qa (Qv 52) (Qd (Qn 2)),
Qa (Qv 53) (MOp.build [(Qr Qu 0),(Qr Qu 0)] [(0,(1,(Qn 51))),(1,(1,(Qn 52)))]),
Qa (Qv 54) (MOp.build [(Qr Qu 0),(Qr Qu 0),(D.sl [])] [(0,(2,(Qn 53)))]),
Qa none (Qd (Qo (Qp A.nil))),
Qa (Qv 56) MOp.mkM,
Qa (Qv 57) (Qd (Qn 1)),
Qa (Qv 58) (Qd (Qn 2)),
Qa (Qv 59) (MOp.build [(Qr Qu 0),(Qr Qu 0)] [(0,(1,(Qn 57))),(1,(1,(Qn 58)))]),
Qa none (MOp.mupd true [Qt,Qt] (Qn 56) (Qn 59) (Qo (Qp (Qq (Qs true))))),
Qa (Qv 60) (Qd (Qn 56)),
Qa (Qv 55) (MOp.bslO 3 [(Qr Qu 0),(Qr Qu 0),(D.sl [])] 1 [(0,(Qn 54))]),
Qa (Qv 11) (MOp.alloc [(D.sl [])]),
Qa none (Ql 1 (Qn 11) (Qn 55)),
Qa (Qv 12) (MOp.alloc [(D.raw (Go.Value.map none))]),
Qa none (Ql 1 (Qn 12) (Qn 60))]
def Waj:MC:=.regw Ydo
def Ydp:List MO:=[
Qa (Qv 61) (MOp.mkF (Go.Fn.func 43) [(Qn 12),(Qn 11)]),
Qa (Qv 13) (Qd (Qn 61))]
def Wak:MC:=.r0 Ydp
def Ydq:List MO:=[
Qa (Qv 62) (Qf 1 false (Qn 11)),
Qa (Qv 63) (Qk Qt (Qn 62)),
Qa (Qv 64) (Qe Qt Go.BinOp.gtr (Qn 63) (Qo (Qp (Qq (Qr Qu 0)))))]
def Wal:MC:=.r0 Ydq
def Ydr:List MO:=[
Qa (Qv 65) (Qf 1 false (Qn 11)),
Qa (Qv 66) (Qj 3 (Qn 65) (Qo (Qp (Qq (Qr Qu 0))))),
Qa (Qv 67) (Qf 3 true (Qn 66)),
Qa (Qv 14) (MOp.alloc [(Qr Qu 0),(Qr Qu 0),(D.sl [])]),
Qa none (Ql 3 (Qn 14) (Qn 67))]
def Wam:MC:=.r0 Ydr
def Yds:List MO:=[
Qa (Qv 68) (Qf 1 false (Qn 11)),
Qa (Qv 69) (MOp.slc 3 (Qn 68) (Qv (Qo (Qp (Qq (Qr Qu 1))))) none),
Qa none (Ql 1 (Qn 11) (Qn 69))]
def Wan:MC:=.r0 Yds
def Ydt:List MO:=[
Qa (Qv 70) (Qd (Qn 10)),
Qa (Qv 71) (Qg 0 (Qn 14)),
Qa (Qv 72) (Qg 0 (Qn 71)),
Qa (Qv 73) (Qf 1 false (Qn 72)),
Qa (Qv 74) (Qh 45 [(Qn 70),(Qn 73)]),
Qa (Qv 75) (Qd (Qn 10)),
Qa (Qv 76) (Qg 0 (Qn 14)),
Qa (Qv 77) (Qg 1 (Qn 76)),
Qa (Qv 78) (Qf 1 false (Qn 77)),
Qc (Qv 79) (Qh 45 [(Qn 75),(Qn 78)]),
Qa (Qv 80) (MOp.eqs true [Qt,Qt,Qt,Leaf.s,Leaf.s,Leaf.s] (Qn 74) (Qn 79))]
def Wao:MC:=.reg true Ydt
def Ydu:List MO:=[
Qa (Qv 81) (Qg 2 (Qn 14)),
Qa (Qv 82) (Qf 1 false (Qn 81)),
Qa (Qv 6) (Qd (Qn 82)),
Qa (Qv 7) (Qd (Qo (Qp (Qq (Qs true)))))]
def Wap:MC:=.r0 Ydu
def Ydv:List MO:=[
Qa (Qv 84) (Qf 2 true (Qn 3)),
Qa (Qv 85) (Qg 0 (Qn 14)),
Qa (Qv 86) (Qg 0 (Qn 85)),
Qa (Qv 87) (Qf 1 false (Qn 86)),
Qa (Qv 88) (Qh 21 [(Qn 84),(Qn 87)]),
Qa (Qv 83) (Qd (Qn 88)),
Qa (Qv 89) (Qi (Qn 83) 0),
Qa (Qv 90) (Qi (Qn 83) 1),
Qa (Qv 15) (Qd (Qn 89)),
Qa (Qv 16) (Qd (Qn 90))]
def Waq:MC:=.r0 Ydv
def Ydw:List MO:=[
Qa (Qv 92) (Qf 2 true (Qn 3)),
Qa (Qv 93) (Qg 0 (Qn 14)),
Qa (Qv 94) (Qg 1 (Qn 93)),
Qa (Qv 95) (Qf 1 false (Qn 94)),
Qa (Qv 96) (Qh 21 [(Qn 92),(Qn 95)]),
Qa (Qv 91) (Qd (Qn 96)),
Qa (Qv 97) (Qi (Qn 91) 0),
Qa (Qv 98) (Qi (Qn 91) 1),
Qa (Qv 17) (Qd (Qn 97)),
Qa (Qv 18) (Qd (Qn 98))]
def War:MC:=.r0 Ydw
def Ydx:List MO:=[
Qa (Qv 99) (Qd (Qn 15)),
Qa (Qv 100) (Qk Qt (Qn 99)),
Qa (Qv 101) (Qd (Qo (Qp (Qq (Qr Qu 0)))))]
def Was:MC:=.r0 Ydx
def Ydy:List MO:=[
Qa (Qv 102) (Qe Qt Go.BinOp.lss (Qn 101) (Qn 100))]
def Wat:MC:=.r0 Ydy
def Ydz:List MO:=[
Qa (Qv 103) (Qd (Qn 101)),
Qa (Qv 19) (Qd (Qn 103))]
def Wau:MC:=.r0 Ydz
def Yd0:List MO:=[
Qa (Qv 104) (Qd (Qn 13)),
Qa (Qv 105) (Qf 3 true (Qn 14)),
Qa (Qv 106) (Qd (Qn 19)),
Qa (Qv 107) (Qd (Qn 15)),
Qa (Qv 108) (Qd (Qn 19)),
Qa (Qv 109) (Qj 1 (Qn 107) (Qn 108)),
Qa (Qv 110) (Qf 1 false (Qn 109)),
Qa (Qv 111) (Qd (Qn 17)),
Qa (Qv 112) (Qd (Qn 19)),
Qa (Qv 113) (Qj 1 (Qn 111) (Qn 112)),
Qa (Qv 114) (Qf 1 false (Qn 113)),
Qa (Qv 115) (MOp.build [(Qr Qu 0),(Qr Qu 0)] [(0,(1,(Qn 110))),(1,(1,(Qn 114)))]),
Qc (Qv 116) (MOp.callv (Qn 104) [(Qn 105),(Qn 106),(Qn 115)])]
def Wav:MC:=.reg true Yd0
def Yd1:List MO:=[
Qa (Qv 117) (Qe Qt Go.BinOp.add (Qn 101) (Qo (Qp (Qq (Qr Qu 1))))),
Qa (Qv 101) (Qd (Qn 117))]
def Waw:MC:=.r0 Yd1
def Wax:MC:=.seq Wat (.seq (.cond (Qn 102) .skip (MC.exit 2)) (.seq (.blk 3 (.seq Wau Wav)) Waw))
def Way:MC:=.seq Waq (.seq War (.seq Was (.blk 2 (.loop Wax))))
def Waz:MC:=.seq Wan (.seq (.seq Wao (.cond (Qn 80) (.seq Wap .ret) .skip)) Way)
def Yd2:List MO:=[
Qa (Qv 6) (Qd (Qo (Qp A.nil))),
Qa (Qv 7) (Qd (Qo (Qp (Qq (Qs false)))))]
def Wa0:MC:=.r0 Yd2
def Wa1:MC:=.seq (.blk 0 (.loop (.seq (.seq Wal (.cond (Qn 64) .skip (MC.exit 0))) (.blk 1 (.seq Wam Waz))))) (.seq Wa0 .ret)
def Wa2:MC:=.seq Wai (.seq Waj (.seq Wak Wa1))
def Wa3:MC:=.seq (.seq Wox (.seq Woy (.cond (Qn 48) (.seq Woz .ret) .skip))) Wa2
def Yd3:MC:=.seq Wow Wa3
attribute [go_sem] Ytn Yto Ytp Ytq Ydn Ydo Ydp Ydq Ydr Yds Ydt Ydu Ydv Ydw Ydx Ydy Ydz Yd0 Yd1 Yd2
theorem Wt1:KK QP 18 f18 [3,55] Yd3 [(RV.t 6),(RV.t 7)] 118:=by refine⟨func18,?_,?_,?_,?_⟩<;>kernel_rfl
theorem Wo0:Xaa QP 18=true:=by kernel_rfl
theorem Wo1 (h:GI QP gp [(RV.t 6),(RV.t 7)] res 118 Yd3 args):Xam QP gp 18 args res:=Wt1.i Wo0 h
def Ytr:List MO:=[
Qa (Qv 3) (MOp.ibox (Qn 0)),
Qa (Qv 6) (Qd (Qo (Qp A.nil))),
Qa (Qv 7) (Qd (Qo (Qp (Qq (Qs false)))))]
def Wo2:MC:=.r0 Ytr
def Yts:List MO:=[
Qa (Qv 18) (Qf 2 true (Qn 3)),
Qa (Qv 19) (Qh 46 [(Qn 18)]),
Qa (Qv 20) (MOp.not (Qn 19)),
Qa (Qv 21) (Qd (Qn 20)),
Qb 21 false (Qv 22),
Qa (Qv 22) (Qd (Qn 1)),
Qb 21 false (Qv 23),
Qa (Qv 23) (Qe Qt Go.BinOp.lss (Qn 22) (Qo (Qp (Qq (Qr Qu 0))))),
Qa (Qv 24) (Qm (Qn 21) (Qo (Qp (Qq (Qs true)))) (Qn 23)),
Qa (Qv 25) (Qd (Qn 24)),
Qb 25 false (Qv 26),
Qa (Qv 26) (Qd (Qn 1)),
Qb 25 false (Qv 27),
Qa (Qv 27) (Qg 1 (Qn 3)),
Qb 25 false (Qv 28),
Qa (Qv 28) (Qf 1 false (Qn 27)),
Qb 25 false (Qv 29),
Qa (Qv 29) (Qk Qt (Qn 28)),
Qb 25 false (Qv 30),
Qa (Qv 30) (Qe Qt Go.BinOp.geq (Qn 26) (Qn 29)),
Qa (Qv 31) (Qm (Qn 25) (Qo (Qp (Qq (Qs true)))) (Qn 30)),
Qa (Qv 32) (Qd (Qn 31)),
Qb 32 false (Qv 33),
Qa (Qv 33) (Qd (Qn 2)),
Qb 32 false (Qv 34),
Qa (Qv 34) (Qe Qt Go.BinOp.lss (Qn 33) (Qo (Qp (Qq (Qr Qu 0))))),
Qa (Qv 35) (Qm (Qn 32) (Qo (Qp (Qq (Qs true)))) (Qn 34)),
Qa (Qv 36) (Qd (Qn 35)),
Qb 36 false (Qv 37),
Qa (Qv 37) (Qd (Qn 2)),
Qb 36 false (Qv 38),
Qa (Qv 38) (Qg 1 (Qn 3)),
Qb 36 false (Qv 39),
Qa (Qv 39) (Qf 1 false (Qn 38)),
Qb 36 false (Qv 40),
Qa (Qv 40) (Qk Qt (Qn 39)),
Qb 36 false (Qv 41),
Qa (Qv 41) (Qe Qt Go.BinOp.geq (Qn 37) (Qn 40)),
Qa (Qv 42) (Qm (Qn 36) (Qo (Qp (Qq (Qs true)))) (Qn 41))]
def Wo3:MC:=.r0 Yts
def Ytt:List MO:=[
Qa (Qv 6) (Qd (Qo (Qp A.nil))),
Qa (Qv 7) (Qd (Qo (Qp (Qq (Qs false)))))]
def Wo4:MC:=.r0 Ytt
def Ytu:List MO:=[
Qa (Qv 43) (Qd (Qn 1)),
Qa (Qv 44) (Qd (Qn 2)),
Qa (Qv 45) (MOp.build [(Qr Qu 0),(Qr Qu 0)] [(0,(1,(Qn 43))),(1,(1,(Qn 44)))]),
Qa (Qv 46) (MOp.build [(Qr Qu 0),(Qr Qu 0),(D.sl [])] [(0,(2,(Qn 45)))]),
Qa (Qv 47) (MOp.bslO 3 [(Qr Qu 0),(Qr Qu 0),(D.sl [])] 1 [(0,(Qn 46))]),
Qa (Qv 8) (Qd (Qn 47))]
def Wo5:MC:=.r0 Ytu
def Ytv:List MO:=[
Qa (Qv 9) (Qd (Qo (Qp (Qq (Qr Qu 0)))))]
def Wo6:MC:=.r0 Ytv
def Yd4:List MO:=[
Qa (Qv 48) (Qd (Qn 9)),
Qa (Qv 49) (Qd (Qn 8)),
Qa (Qv 50) (Qk Qt (Qn 49)),
Qa (Qv 51) (Qe Qt Go.BinOp.lss (Qn 48) (Qn 50))]
def Wa4:MC:=.r0 Yd4
def Yd5:List MO:=[
Qa (Qv 54) (Qd (Qn 8)),
Qa (Qv 55) (Qd (Qn 9)),
Qa (Qv 56) (Qj 3 (Qn 54) (Qn 55)),
Qa (Qv 57) (Qg 0 (Qn 56)),
Qa (Qv 58) (Qf 2 true (Qn 57)),
Qa (Qv 10) (MOp.alloc [(Qr Qu 0),(Qr Qu 0)]),
Qa none (Ql 2 (Qn 10) (Qn 58))]
def Wa5:MC:=.r0 Yd5
def Yd6:List MO:=[
Qa (Qv 59) (Qf 2 true (Qn 3)),
Qa (Qv 60) (Qg 0 (Qn 10)),
Qa (Qv 61) (Qf 1 false (Qn 60)),
Qa (Qv 62) (Qf 2 true (Qn 3)),
Qa (Qv 63) (Qg 1 (Qn 10)),
Qa (Qv 64) (Qf 1 false (Qn 63)),
Qa (Qv 65) (Qh 22 [(Qn 59),(Qn 61),(Qn 62),(Qn 64)]),
Qa (Qv 66) (MOp.not (Qn 65))]
def Wa6:MC:=.r0 Yd6
def Yd7:List MO:=[
Qa (Qv 67) (Qd (Qn 8)),
Qa (Qv 68) (Qd (Qn 9)),
Qa (Qv 69) (Qj 3 (Qn 67) (Qn 68)),
Qa (Qv 70) (Qg 2 (Qn 69)),
Qa (Qv 71) (Qf 1 false (Qn 70)),
Qa (Qv 6) (Qd (Qn 71)),
Qa (Qv 7) (Qd (Qo (Qp (Qq (Qs true)))))]
def Wa7:MC:=.r0 Yd7
def Yd8:List MO:=[
Qa (Qv 73) (Qf 2 true (Qn 3)),
Qa (Qv 74) (Qg 0 (Qn 10)),
Qa (Qv 75) (Qf 1 false (Qn 74)),
Qa (Qv 76) (Qh 47 [(Qn 73),(Qn 75)]),
Qa (Qv 72) (Qd (Qn 76)),
Qa (Qv 77) (Qi (Qn 72) 0),
Qa (Qv 78) (Qi (Qn 72) 1),
Qa (Qv 11) (Qd (Qn 77)),
Qa (Qv 12) (Qd (Qn 78))]
def Wa8:MC:=.r0 Yd8
def Yd9:List MO:=[
Qa (Qv 80) (Qf 2 true (Qn 3)),
Qa (Qv 81) (Qg 1 (Qn 10)),
Qa (Qv 82) (Qf 1 false (Qn 81)),
Qa (Qv 83) (Qh 47 [(Qn 80),(Qn 82)]),
Qa (Qv 79) (Qd (Qn 83)),
Qa (Qv 84) (Qi (Qn 79) 0),
Qa (Qv 85) (Qi (Qn 79) 1),
Qa (Qv 13) (Qd (Qn 84)),
Qa (Qv 14) (Qd (Qn 85))]
def Wa9:MC:=.r0 Yd9
def Yea:List MO:=[
Qa (Qv 15) (Qd (Qo (Qp (Qq (Qr Qu 0)))))]
def Wba:MC:=.r0 Yea
def Yeb:List MO:=[
Qa (Qv 86) (Qd (Qn 15)),
Qa (Qv 87) (Qd (Qn 11)),
Qa (Qv 88) (Qk Qt (Qn 87)),
Qa (Qv 89) (Qe Qt Go.BinOp.lss (Qn 86) (Qn 88))]
def Wbb:MC:=.r0 Yeb
def Yec:List MO:=[
Qa (Qv 92) (Qd (Qn 11)),
Qa (Qv 93) (Qd (Qn 15)),
Qa (Qv 94) (Qj 1 (Qn 92) (Qn 93)),
Qa (Qv 95) (Qf 1 false (Qn 94)),
Qa (Qv 96) (Qd (Qn 13)),
Qa (Qv 97) (Qd (Qn 15)),
Qa (Qv 98) (Qj 1 (Qn 96) (Qn 97)),
Qa (Qv 99) (Qf 1 false (Qn 98)),
Qa (Qv 100) (MOp.build [(Qr Qu 0),(Qr Qu 0)] [(0,(1,(Qn 95))),(1,(1,(Qn 99)))]),
Qa (Qv 16) (MOp.alloc [(Qr Qu 0),(Qr Qu 0)]),
Qa none (Ql 2 (Qn 16) (Qn 100))]
def Wbc:MC:=.reg true Yec
def Yed:List MO:=[
Qa (Qv 101) (Qd (Qn 8)),
Qa (Qv 102) (Qf 2 true (Qn 16)),
Qa (Qv 103) (Qh 48 [(Qn 101),(Qn 102)]),
Qa (Qv 104) (MOp.not (Qn 103))]
def Wbd:MC:=.r0 Yed
def Yee:List MO:=[
Qa (Qv 17) (Qd (Qo (Qp A.nil)))]
def Wbe:MC:=.r0 Yee
def Yef:List MO:=[
Qa (Qv 105) (Qd (Qn 17)),
Qa (Qv 106) (Qd (Qn 8)),
Qa (Qv 107) (Qd (Qn 9)),
Qa (Qv 108) (Qj 3 (Qn 106) (Qn 107)),
Qa (Qv 109) (Qg 2 (Qn 108)),
Qa (Qv 110) (Qf 1 false (Qn 109)),
Qa (Qv 111) (MOp.app 3 1 8 (Qn 105) (Qn 110)),
Qa (Qv 112) (Qd (Qn 15)),
Qa (Qv 113) (MOp.bslice 1 [(Qr Qu 0)] 1 [(0,(Qn 112))]),
Qa (Qv 114) (MOp.app 3 1 8 (Qn 111) (Qn 113)),
Qa (Qv 17) (Qd (Qn 114))]
def Wbf:MC:=.r0 Yef
def Yeg:List MO:=[
Qa (Qv 115) (Qd (Qn 8)),
Qa (Qv 116) (Qf 2 true (Qn 16)),
Qa (Qv 117) (Qd (Qn 17)),
Qa (Qv 118) (MOp.build [(Qr Qu 0),(Qr Qu 0),(D.sl [])] [(0,(2,(Qn 116))),(2,(1,(Qn 117)))]),
Qa (Qv 119) (MOp.bslice 3 [(Qr Qu 0),(Qr Qu 0),(D.sl [])] 1 [(0,(Qn 118))]),
Qa (Qv 120) (MOp.app 77 3 40 (Qn 115) (Qn 119)),
Qa (Qv 8) (Qd (Qn 120))]
def Wbg:MC:=.r0 Yeg
def Wbh:MC:=.seq Wbd (.cond (Qn 104) (.seq Wbe (.seq Wbf Wbg)) .skip)
def Yeh:List MO:=[
Qa (Qv 90) (Qd (Qn 15)),
Qa (Qv 91) (Qe Qt Go.BinOp.add (Qn 90) (Qo (Qp (Qq (Qr Qu 1))))),
Qa (Qv 15) (Qd (Qn 91))]
def Wbi:MC:=.r0 Yeh
def Wbj:MC:=.seq (.seq Wbb (.cond (Qn 89) .skip (MC.exit 2))) (.seq (.blk 3 (.seq Wbc Wbh)) Wbi)
def Wbk:MC:=.seq Wa8 (.seq Wa9 (.seq Wba (.blk 2 (.loop Wbj))))
def Wbl:MC:=.seq Wa5 (.seq (.seq Wa6 (.cond (Qn 66) (.seq Wa7 .ret) .skip)) Wbk)
def Yei:List MO:=[
Qa (Qv 52) (Qd (Qn 9)),
Qa (Qv 53) (Qe Qt Go.BinOp.add (Qn 52) (Qo (Qp (Qq (Qr Qu 1))))),
Qa (Qv 9) (Qd (Qn 53))]
def Wbm:MC:=.r0 Yei
def Wbn:MC:=.seq Wo6 (.blk 0 (.loop (.seq (.seq Wa4 (.cond (Qn 51) .skip (MC.exit 0))) (.seq (.blk 1 Wbl) Wbm))))
def Yej:List MO:=[
Qa (Qv 6) (Qd (Qo (Qp A.nil))),
Qa (Qv 7) (Qd (Qo (Qp (Qq (Qs false)))))]
def Wbo:MC:=.r0 Yej
def Wbp:MC:=.seq (.seq Wo3 (.cond (Qn 42) (.seq Wo4 .ret) .skip)) (.seq Wo5 (.seq Wbn (.seq Wbo .ret)))
def Yek:MC:=.seq Wo2 Wbp
attribute [go_sem] Ytr Yts Ytt Ytu Ytv Yd4 Yd5 Yd6 Yd7 Yd8 Yd9 Yea Yeb Yec Yed Yee Yef Yeg Yeh Yei Yej
theorem Wt2:KK QP 19 f19 [3,47] Yek [(RV.t 6),(RV.t 7)] 121:=by refine⟨func19,?_,?_,?_,?_⟩<;>kernel_rfl
theorem Wo7:Xaa QP 19=true:=by kernel_rfl
theorem Wo8 (h:GI QP gp [(RV.t 6),(RV.t 7)] res 121 Yek args):Xam QP gp 19 args res:=Wt2.i Wo7 h
def Ytw:List MO:=[
Qa (Qv 1) (MOp.ibox (Qn 0)),
Qa (Qv 2) (Qd (Qo (Qp (Qq D.nilP))))]
def Wo9:MC:=.r0 Ytw
def Ytx:List MO:=[
Qa (Qv 3) (Qf 2 true (Qn 1)),
Qa (Qv 4) (Qg 1 (Qn 1)),
Qa (Qv 5) (Qf 1 false (Qn 4)),
Qa (Qv 6) (Qk Qt (Qn 5)),
Qa (Qv 7) (MOp.mkS 1 8 [(Qr Qu 0)] (Qn 6)),
Qa (Qv 8) (MOp.build [(Qr Qu 0),(D.sl []),(D.sl [])] [(0,(2,(Qn 3))),(2,(1,(Qn 7)))]),
Qa (Qv 9) (MOp.box (Qn 8)),
Qa (Qv 2) (Qd (Qn 9))]
def Wpa:MC:=.reg true Ytx
def Yty:MC:=.seq Wo9 (.seq Wpa .ret)
attribute [go_sem] Ytw Ytx
theorem Wt3:KK QP 37 f37 [1] Yty [(RV.t 2)] 10:=by refine⟨func37,?_,?_,?_,?_⟩<;>kernel_rfl
theorem Yel:Xaa QP 37=true:=by kernel_rfl
theorem Wbq (h:GT QP gp [(RV.t 2)] pre R 10 Yty args):Tri QP gp 37 args pre R:=Wt3.t h
def Ytz:List MO:=[
Qa (Qv 2) (Qd (Qo (Qp A.nil)))]
def Wpb:MC:=.r0 Ytz
def Yt0:List MO:=[
Qa (Qv 6) (Qd (Qn 0)),
Qa (Qv 7) (MOp.mkMv (Go.Fn.func 71) (Qn 6)),
Qa (Qv 3) (Qd (Qn 7))]
def Wpc:MC:=.r0 Yt0
def Yt1:List MO:=[
Qa (Qv 8) (Qd (Qn 3)),
Qa (Qv 9) (MOp.callv (Qn 8) []),
Qa (Qv 4) (Qd (Qo (Qp (Qq (Qr Qu 0))))),
Qa (Qv 5) (Qd (Qn 9))]
def Wpd:MC:=.r0 Yt1
def Yt2:List MO:=[
Qa (Qv 10) (Qd (Qn 5)),
Qa (Qv 11) (Qd (Qn 4)),
Qa (Qv 12) (Qe Qt Go.BinOp.gtr (Qn 10) (Qn 11))]
def Wpe:MC:=.r0 Yt2
def Yt3:List MO:=[
Qa (Qv 13) (Qd (Qn 5)),
Qa (Qv 14) (Qd (Qn 3)),
Qa (Qv 15) (MOp.callv (Qn 14) []),
Qa (Qv 4) (Qd (Qn 13)),
Qa (Qv 5) (Qd (Qn 15))]
def Wpf:MC:=.r0 Yt3
def Yem:List MO:=[
Qa (Qv 16) (Qd (Qn 0)),
Qa (Qv 17) (MOp.nck (Qn 16)),
Qa (Qv 18) (Qg 2 (Qn 17)),
Qa (Qv 19) (Qf 1 false (Qn 18)),
Qa (Qv 2) (Qd (Qn 19))]
def Wbr:MC:=.r0 Yem
def Wbs:MC:=.seq (.seq Wpd (.blk 0 (.loop (.seq (.seq Wpe (.cond (Qn 12) .skip (MC.exit 0))) (.blk 1 Wpf))))) (.seq Wbr .ret)
def Yen:MC:=.seq Wpb (.seq Wpc Wbs)
attribute [go_sem] Ytz Yt0 Yt1 Yt2 Yt3 Yem
theorem Wt4:KK QP 38 f38 [] Yen [(RV.t 2)] 20:=by refine⟨func38,?_,?_,?_,?_⟩<;>kernel_rfl
theorem Yt4:Xaa QP 38=true:=by kernel_rfl
theorem Wbt (h:GT QP gp [(RV.t 2)] pre R 20 Yen args):Tri QP gp 38 args pre R:=Wt4.t h
def Yt5:List MO:=[
Qa (Qv 1) (MOp.ibox (Qn 0)),
Qa (Qv 2) (Qd (Qo (Qp A.nil)))]
def Wpg:MC:=.r0 Yt5
def Yt6:List MO:=[
Qa (Qv 15) (Qg 1 (Qn 1)),
Qa (Qv 16) (Qf 1 false (Qn 15)),
Qa (Qv 17) (Qk Qt (Qn 16)),
Qa (Qv 3) (Qd (Qn 17))]
def Wph:MC:=.r0 Yt6
def Yt7:List MO:=[
Qa (Qv 4) (Qd (Qo (Qp A.nil)))]
def Wpi:MC:=.r0 Yt7
def Yt8:List MO:=[
Qa (Qv 5) (Qd (Qo (Qp A.nil)))]
def Wpj:MC:=.r0 Yt8
def Yt9:List MO:=[
Qa (Qv 6) (Qd (Qo (Qp (Qq (Qr Qu 0)))))]
def Wpk:MC:=.r0 Yt9
def Yua:List MO:=[
Qa (Qv 18) (Qd (Qn 6)),
Qa (Qv 19) (Qd (Qn 3)),
Qa (Qv 20) (Qe Qt Go.BinOp.lss (Qn 18) (Qn 19))]
def Wpl:MC:=.r0 Yua
def Yeo:List MO:=[
Qa (Qv 24) (Qf 2 true (Qn 1)),
Qa (Qv 25) (Qd (Qn 6)),
Qa (Qv 26) (Qh 47 [(Qn 24),(Qn 25)]),
Qa (Qv 23) (Qd (Qn 26)),
Qa (Qv 27) (Qi (Qn 23) 0),
Qa (Qv 28) (Qi (Qn 23) 1),
Qa (Qv 7) (Qd (Qn 27)),
Qa (Qv 8) (Qd (Qn 28))]
def Wbu:MC:=.r0 Yeo
def Yep:List MO:=[
Qa (Qv 29) (Qd (Qn 4)),
Qa (Qv 30) (Qd (Qn 7)),
Qa (Qv 31) (MOp.bslice 1 [(D.sl [])] 1 [(0,(Qn 30))]),
Qa (Qv 32) (MOp.app 27 1 24 (Qn 29) (Qn 31)),
Qa (Qv 4) (Qd (Qn 32))]
def Wbv:MC:=.r0 Yep
def Yeq:List MO:=[
Qa (Qv 9) (Qd (Qo (Qp A.nil)))]
def Wbw:MC:=.r0 Yeq
def Yer:List MO:=[
Qa (Qv 10) (Qd (Qo (Qp (Qq (Qr Qu 0)))))]
def Wbx:MC:=.r0 Yer
def Yes:List MO:=[
Qa (Qv 33) (Qd (Qn 10)),
Qa (Qv 34) (Qd (Qn 3)),
Qa (Qv 35) (Qe Qt Go.BinOp.lss (Qn 33) (Qn 34))]
def Wby:MC:=.r0 Yes
def Yet:List MO:=[
Qa (Qv 38) (Qd (Qn 9)),
Qa (Qv 39) (Qf 2 true (Qn 1)),
Qa (Qv 40) (Qd (Qn 6)),
Qa (Qv 41) (Qf 2 true (Qn 1)),
Qa (Qv 42) (Qd (Qn 10)),
Qa (Qv 43) (Qh 22 [(Qn 39),(Qn 40),(Qn 41),(Qn 42)]),
Qa (Qv 44) (MOp.bslice 1 [(Qs false)] 1 [(0,(Qn 43))]),
Qa (Qv 45) (MOp.app 4 1 1 (Qn 38) (Qn 44)),
Qa (Qv 9) (Qd (Qn 45))]
def Wbz:MC:=.r0 Yet
def Yeu:List MO:=[
Qa (Qv 36) (Qd (Qn 10)),
Qa (Qv 37) (Qe Qt Go.BinOp.add (Qn 36) (Qo (Qp (Qq (Qr Qu 1))))),
Qa (Qv 10) (Qd (Qn 37))]
def Wb0:MC:=.r0 Yeu
def Wb1:MC:=.seq Wbx (.blk 2 (.loop (.seq (.seq Wby (.cond (Qn 35) .skip (MC.exit 2))) (.seq (.blk 3 Wbz) Wb0))))
def Yev:List MO:=[
Qa (Qv 46) (Qd (Qn 5)),
Qa (Qv 47) (Qd (Qn 9)),
Qa (Qv 48) (MOp.bslice 1 [(D.sl [])] 1 [(0,(Qn 47))]),
Qa (Qv 49) (MOp.app 62 1 24 (Qn 46) (Qn 48)),
Qa (Qv 5) (Qd (Qn 49))]
def Wb2:MC:=.r0 Yev
def Wb3:MC:=.seq Wbv (.seq Wbw (.seq Wb1 Wb2))
def Yew:List MO:=[
Qa (Qv 21) (Qd (Qn 6)),
Qa (Qv 22) (Qe Qt Go.BinOp.add (Qn 21) (Qo (Qp (Qq (Qr Qu 1))))),
Qa (Qv 6) (Qd (Qn 22))]
def Wb4:MC:=.r0 Yew
def Wb5:MC:=.seq (.seq Wpl (.cond (Qn 20) .skip (MC.exit 0))) (.seq (.blk 1 (.seq Wbu Wb3)) Wb4)
def Yex:List MO:=[
Qa (Qv 11) (Qd (Qo (Qp (Qq (Qs true)))))]
def Wb6:MC:=.r0 Yex
def Yey:List MO:=[
Qa (Qv 50) (Qd (Qn 11))]
def Wb7:MC:=.r0 Yey
def Yez:List MO:=[
Qa (Qv 11) (Qd (Qo (Qp (Qq (Qs false)))))]
def Wb8:MC:=.r0 Yez
def Ye0:List MO:=[
Qa (Qv 12) (Qd (Qo (Qp (Qq (Qr Qu 0)))))]
def Wb9:MC:=.r0 Ye0
def Ye1:List MO:=[
Qa (Qv 51) (Qd (Qn 12)),
Qa (Qv 52) (Qd (Qn 3)),
Qa (Qv 53) (Qe Qt Go.BinOp.lss (Qn 51) (Qn 52))]
def Wca:MC:=.r0 Ye1
def Ye2:List MO:=[
Qa (Qv 13) (Qd (Qo (Qp (Qq (Qr Qu 0)))))]
def Wcb:MC:=.r0 Ye2
def Ye3:List MO:=[
Qa (Qv 56) (Qd (Qn 13)),
Qa (Qv 57) (Qd (Qn 3)),
Qa (Qv 58) (Qe Qt Go.BinOp.lss (Qn 56) (Qn 57))]
def Wcc:MC:=.r0 Ye3
def Ye4:List MO:=[
Qa (Qv 14) (Qd (Qo (Qp (Qq (Qr Qu 0)))))]
def Wcd:MC:=.r0 Ye4
def Ye5:List MO:=[
Qa (Qv 61) (Qd (Qn 14)),
Qa (Qv 62) (Qd (Qn 4)),
Qa (Qv 63) (Qd (Qn 12)),
Qa (Qv 64) (Qj 1 (Qn 62) (Qn 63)),
Qa (Qv 65) (Qf 1 false (Qn 64)),
Qa (Qv 66) (Qk Qt (Qn 65)),
Qa (Qv 67) (Qe Qt Go.BinOp.lss (Qn 61) (Qn 66)),
Qa (Qv 68) (Qd (Qn 67)),
Qb 68 true (Qv 69),
Qa (Qv 69) (Qd (Qn 5)),
Qb 68 true (Qv 70),
Qa (Qv 70) (Qd (Qn 12)),
Qb 68 true (Qv 71),
Qa (Qv 71) (Qj 1 (Qn 69) (Qn 70)),
Qb 68 true (Qv 72),
Qa (Qv 72) (Qf 1 false (Qn 71)),
Qb 68 true (Qv 73),
Qa (Qv 73) (Qd (Qn 13)),
Qb 68 true (Qv 74),
Qa (Qv 74) (Qj 1 (Qn 72) (Qn 73)),
Qb 68 true (Qv 75),
Qa (Qv 75) (Qf 1 false (Qn 74)),
Qa (Qv 76) (Qm (Qn 68) (Qn 75) (Qo (Qp (Qq (Qs false)))))]
def Wce:MC:=.r0 Ye5
def Ye6:List MO:=[
Qa (Qv 79) (Qd (Qn 5)),
Qa (Qv 80) (Qd (Qn 4)),
Qa (Qv 81) (Qd (Qn 12)),
Qa (Qv 82) (Qj 1 (Qn 80) (Qn 81)),
Qa (Qv 83) (Qf 1 false (Qn 82)),
Qa (Qv 84) (Qd (Qn 14)),
Qa (Qv 85) (Qj 1 (Qn 83) (Qn 84)),
Qa (Qv 86) (Qf 1 false (Qn 85)),
Qa (Qv 87) (Qj 1 (Qn 79) (Qn 86)),
Qa (Qv 88) (Qf 1 false (Qn 87)),
Qa (Qv 89) (Qd (Qn 4)),
Qa (Qv 90) (Qd (Qn 13)),
Qa (Qv 91) (Qj 1 (Qn 89) (Qn 90)),
Qa (Qv 92) (Qf 1 false (Qn 91)),
Qa (Qv 93) (Qd (Qn 14)),
Qa (Qv 94) (Qj 1 (Qn 92) (Qn 93)),
Qa (Qv 95) (Qf 1 false (Qn 94)),
Qa (Qv 96) (Qj 1 (Qn 88) (Qn 95)),
Qa (Qv 97) (Qf 1 false (Qn 96)),
Qa (Qv 98) (MOp.not (Qn 97))]
def Wcf:MC:=.reg true Ye6
def Ye7:List MO:=[
Qa (Qv 99) (Qd (Qn 5)),
Qa (Qv 100) (Qd (Qn 12)),
Qa (Qv 101) (Qj 1 (Qn 99) (Qn 100)),
Qa (Qv 102) (Qf 1 false (Qn 101)),
Qa (Qv 103) (Qd (Qn 13)),
Qa (Qv 104) (Qj 1 (Qn 102) (Qn 103)),
Qa none (Ql 1 (Qn 104) (Qo (Qp (Qq (Qs false)))))]
def Wcg:MC:=.r0 Ye7
def Ye8:List MO:=[
Qa (Qv 11) (Qd (Qo (Qp (Qq (Qs true)))))]
def Wch:MC:=.r0 Ye8
def Ye9:List MO:=[
Qa (Qv 77) (Qd (Qn 14)),
Qa (Qv 78) (Qe Qt Go.BinOp.add (Qn 77) (Qo (Qp (Qq (Qr Qu 1))))),
Qa (Qv 14) (Qd (Qn 78))]
def Wci:MC:=.r0 Ye9
def Wcj:MC:=.seq (.blk 11 (.seq Wcf (.cond (Qn 98) (.seq Wcg Wch) .skip))) Wci
def Yfa:List MO:=[
Qa (Qv 59) (Qd (Qn 13)),
Qa (Qv 60) (Qe Qt Go.BinOp.add (Qn 59) (Qo (Qp (Qq (Qr Qu 1))))),
Qa (Qv 13) (Qd (Qn 60))]
def Wck:MC:=.r0 Yfa
def Wcl:MC:=.seq (.blk 9 (.seq Wcd (.blk 10 (.loop (.seq (.seq Wce (.cond (Qn 76) .skip (MC.exit 10))) Wcj))))) Wck
def Yfb:List MO:=[
Qa (Qv 54) (Qd (Qn 12)),
Qa (Qv 55) (Qe Qt Go.BinOp.add (Qn 54) (Qo (Qp (Qq (Qr Qu 1))))),
Qa (Qv 12) (Qd (Qn 55))]
def Wcm:MC:=.r0 Yfb
def Wcn:MC:=.seq (.blk 7 (.seq Wcb (.blk 8 (.loop (.seq (.seq Wcc (.cond (Qn 58) .skip (MC.exit 8))) Wcl))))) Wcm
def Wco:MC:=.seq Wb8 (.seq Wb9 (.blk 6 (.loop (.seq (.seq Wca (.cond (Qn 53) .skip (MC.exit 6))) Wcn))))
def Yfc:List MO:=[
Qa (Qv 105) (Qd (Qn 5)),
Qa (Qv 2) (Qd (Qn 105))]
def Wcp:MC:=.r0 Yfc
def Yny:MC:=.seq Wb6 (.seq (.blk 4 (.loop (.seq (.seq Wb7 (.cond (Qn 50) .skip (MC.exit 4))) (.blk 5 Wco)))) (.seq Wcp .ret))
def Ynz:MC:=.seq Wpj (.seq (.seq Wpk (.blk 0 (.loop Wb5))) Yny)
def Xyq:MC:=.seq Wpg (.seq Wph (.seq Wpi Ynz))
attribute [go_sem] Yt5 Yt6 Yt7 Yt8 Yt9 Yua Yeo Yep Yeq Yer Yes Yet Yeu Yev Yew Yex Yey Yez Ye0 Ye1 Ye2 Ye3 Ye4 Ye5 Ye6 Ye7 Ye8 Ye9 Yfa Yfb Yfc
theorem Wt5:KK QP 40 f40 [1] Xyq [(RV.t 2)] 106:=by refine⟨func40,?_,?_,?_,?_⟩<;>kernel_rfl
theorem Wpm:Xaa QP 40=true:=by kernel_rfl
theorem Wpn (h:GI QP gp [(RV.t 2)] res 106 Xyq args):Xam QP gp 40 args res:=Wt5.i Wpm h
def Xdo:List MO:=[
Qa (Qv 2) (MOp.ibox (Qn 0)),
Qa (Qv 3) (MOp.ibox (Qn 1)),
Qa (Qv 4) (MOp.alloc [(Qr Qu 0),(D.sl [])])]
def Wpo:MC:=.r0 Xdo
def Xdp:List MO:=[
Qa (Qv 9) (Qg 0 (Qn 2)),
Qa (Qv 10) (Qf 1 false (Qn 9)),
Qa (Qv 11) (Qg 1 (Qn 2)),
Qa (Qv 12) (Qf 1 false (Qn 11)),
Qa (Qv 13) (MOp.callN 73 [(Qn 12)]),
Qa (Qv 14) (MOp.build [(Qr Qu 0),(D.sl [])] [(0,(1,(Qn 10))),(1,(1,(Qn 13)))]),
Qa (Qv 5) (MOp.alloc [(Qr Qu 0),(D.sl [])]),
Qa none (Ql 2 (Qn 5) (Qn 14))]
def Wpp:MC:=.regw Xdp
def Xdq:List MO:=[
Qa (Qv 15) (Qg 1 (Qn 3)),
Qa (Qv 16) (Qf 1 false (Qn 15)),
Qa (Qv 17) (Qk Qt (Qn 16)),
Qa (Qv 18) (Qd (Qo (Qp (Qq (Qr Qu 0)))))]
def Wpq:MC:=.r0 Xdq
def Xc6:List MO:=[
Qa (Qv 19) (Qe Qt Go.BinOp.lss (Qn 18) (Qn 17))]
def Wpr:MC:=.r0 Xc6
def Xdr:List MO:=[
Qa (Qv 20) (Qj 6 (Qn 16) (Qn 18)),
Qa (Qv 21) (Qf 6 true (Qn 20)),
Qa (Qv 7) (MOp.alloc [(Qr Qu 0),(Qr Qu 0),(Qr Qu 0),(D.str (ByteArray.mk #[])),(D.sl []),(D.sl [])]),
Qa none (Ql 6 (Qn 7) (Qn 21))]
def Wps:MC:=.r0 Xdr
def Xds:List MO:=[
Qa (Qv 22) (Qg 5 (Qn 7)),
Qa (Qv 23) (Qf 1 false (Qn 22)),
Qa (Qv 24) (Qh 44 [(Qn 23)]),
Qa (Qv 25) (Qg 5 (Qn 7)),
Qa none (Ql 1 (Qn 25) (Qn 24))]
def Wpt:MC:=.r0 Xds
def Xdt:List MO:=[
Qa (Qv 26) (Qg 5 (Qn 7)),
Qa (Qv 27) (Qf 1 false (Qn 26)),
Qa (Qv 28) (Qk Qt (Qn 27)),
Qa (Qv 29) (Qd (Qo (Qp (Qq (Qr Qu 0)))))]
def Wpu:MC:=.r0 Xdt
def Xcc:List MO:=[
Qa (Qv 30) (Qe Qt Go.BinOp.lss (Qn 29) (Qn 28))]
def Wcq:MC:=.r0 Xcc
def Xcd:List MO:=[
Qa (Qv 31) (Qd (Qn 29)),
Qa (Qv 8) (Qd (Qn 31))]
def Wcr:MC:=.r0 Xcd
def Xce:List MO:=[
Qa (Qv 32) (Qg 5 (Qn 7)),
Qa (Qv 33) (Qf 1 false (Qn 32)),
Qa (Qv 34) (Qd (Qn 8)),
Qa (Qv 35) (Qj 1 (Qn 33) (Qn 34)),
Qa (Qv 36) (Qf 1 false (Qn 35)),
Qa (Qv 37) (Qg 1 (Qn 2)),
Qa (Qv 38) (Qf 1 false (Qn 37)),
Qa (Qv 39) (Qk Qt (Qn 38)),
Qa (Qv 40) (Qe Qt Go.BinOp.add (Qn 36) (Qn 39)),
Qa (Qv 41) (Qj 1 (Qn 33) (Qn 34)),
Qa none (Ql 1 (Qn 41) (Qn 40))]
def Wcs:MC:=.reg true Xce
def Xcf:List MO:=[
Qa (Qv 42) (Qe Qt Go.BinOp.add (Qn 29) (Qo (Qp (Qq (Qr Qu 1))))),
Qa (Qv 29) (Qd (Qn 42))]
def Wct:MC:=.r0 Xcf
def Wcu:MC:=.seq Wcq (.seq (.cond (Qn 30) .skip (MC.exit 2)) (.seq (.blk 3 (.seq Wcr Wcs)) Wct))
def Xcg:List MO:=[
Qa (Qv 43) (Qg 1 (Qn 5)),
Qa (Qv 44) (Qf 1 false (Qn 43)),
Qa (Qv 45) (Qf 6 true (Qn 7)),
Qa (Qv 46) (MOp.bslice 6 [(Qr Qu 0),(Qr Qu 0),(Qr Qu 0),(D.str (ByteArray.mk #[])),(D.sl []),(D.sl [])] 1 [(0,(Qn 45))]),
Qa (Qv 47) (MOp.app 44 6 88 (Qn 44) (Qn 46)),
Qa (Qv 48) (Qg 1 (Qn 5)),
Qa none (Ql 1 (Qn 48) (Qn 47))]
def Wcv:MC:=.r0 Xcg
def Wcw:MC:=.seq Wpt (.seq (.seq Wpu (.blk 2 (.loop Wcu))) Wcv)
def Xch:List MO:=[
Qa (Qv 49) (Qe Qt Go.BinOp.add (Qn 18) (Qo (Qp (Qq (Qr Qu 1))))),
Qa (Qv 18) (Qd (Qn 49))]
def Wcx:MC:=.r0 Xch
def Wcy:MC:=.seq Wpr (.seq (.cond (Qn 19) .skip (MC.exit 0)) (.seq (.blk 1 (.seq Wps Wcw)) Wcx))
def Xci:List MO:=[
Qa (Qv 50) (Qf 2 true (Qn 5)),
Qa none (Ql 2 (Qn 4) (Qn 50))]
def Wcz:MC:=.r0 Xci
def Wc0:MC:=.seq Wpp (.seq (.seq Wpq (.blk 0 (.loop Wcy))) (.seq Wcz .ret))
def Yfd:MC:=.seq Wpo Wc0
theorem Wt6:KK QP 41 f41 [2,3,3013] Yfd [(RV.cell 4 2 true)] 51:=by refine⟨func41,?_,?_,?_,?_⟩<;>kernel_rfl
theorem Wpv:Xaa QP 41=true:=by kernel_rfl
theorem Wpw (h:GI QP gp [(RV.cell 4 2 true)] res 51 Yfd args):Xam QP gp 41 args res:=Wt6.i Wpv h
def Yub:List MO:=[
Qa (Qv 2) (MOp.ibox (Qn 0)),
Qa (Qv 3) (MOp.ibox (Qn 1)),
Qa (Qv 4) (MOp.alloc [(Qr Qu 0),(D.sl [])])]
def Wpx:MC:=.r0 Yub
def Yuc:List MO:=[
Qa (Qv 10) (Qg 0 (Qn 2)),
Qa (Qv 11) (Qf 1 false (Qn 10)),
Qa (Qv 12) (MOp.build [(Qr Qu 0),(D.sl [])] [(0,(1,(Qn 11)))]),
Qa (Qv 5) (MOp.alloc [(Qr Qu 0),(D.sl [])]),
Qa none (Ql 2 (Qn 5) (Qn 12))]
def Wpy:MC:=.r0 Yuc
def Yud:List MO:=[
Qa (Qv 13) (Qg 1 (Qn 5)),
Qa (Qv 14) (Qf 1 false (Qn 13)),
Qa (Qv 15) (Qg 1 (Qn 2)),
Qa (Qv 16) (Qf 1 false (Qn 15)),
Qa (Qv 17) (MOp.app 44 6 88 (Qn 14) (Qn 16)),
Qa (Qv 18) (Qg 1 (Qn 5)),
Qa none (Ql 1 (Qn 18) (Qn 17))]
def Wpz:MC:=.r0 Yud
def Yue:List MO:=[
Qa (Qv 6) (Qd (Qo (Qp (Qq (Qr Qu 0)))))]
def Wp0:MC:=.r0 Yue
def Yuf:List MO:=[
Qa (Qv 19) (Qd (Qn 6)),
Qa (Qv 20) (Qg 1 (Qn 3)),
Qa (Qv 21) (Qf 1 false (Qn 20)),
Qa (Qv 22) (Qk Qt (Qn 21)),
Qa (Qv 23) (Qe Qt Go.BinOp.lss (Qn 19) (Qn 22))]
def Wp1:MC:=.r0 Yuf
def Yug:List MO:=[
Qa (Qv 26) (Qg 1 (Qn 3)),
Qa (Qv 27) (Qf 1 false (Qn 26)),
Qa (Qv 28) (Qd (Qn 6)),
Qa (Qv 29) (Qj 6 (Qn 27) (Qn 28)),
Qa (Qv 30) (Qf 6 true (Qn 29)),
Qa (Qv 7) (MOp.alloc [(Qr Qu 0),(Qr Qu 0),(Qr Qu 0),(D.str (ByteArray.mk #[])),(D.sl []),(D.sl [])]),
Qa none (Ql 6 (Qn 7) (Qn 30))]
def Wp2:MC:=.r0 Yug
def Yfe:List MO:=[
Qa (Qv 31) (Qg 0 (Qn 7)),
Qa (Qv 32) (Qf 1 false (Qn 31)),
Qa (Qv 33) (Qg 1 (Qn 7)),
Qa (Qv 34) (Qf 3 true (Qn 33)),
Qa (Qv 35) (Qg 4 (Qn 7)),
Qa (Qv 36) (Qf 1 false (Qn 35)),
Qa (Qv 37) (MOp.build [(Qr Qu 0),(Qr Qu 0),(Qr Qu 0),(D.str (ByteArray.mk #[])),(D.sl []),(D.sl [])] [(0,(1,(Qn 32))),(1,(3,(Qn 34))),(4,(1,(Qn 36)))]),
Qa (Qv 8) (MOp.alloc [(Qr Qu 0),(Qr Qu 0),(Qr Qu 0),(D.str (ByteArray.mk #[])),(D.sl []),(D.sl [])]),
Qa none (Ql 6 (Qn 8) (Qn 37))]
def Wc1:MC:=.r0 Yfe
def Yff:List MO:=[
Qa (Qv 9) (Qd (Qo (Qp (Qq (Qr Qu 0)))))]
def Wc2:MC:=.r0 Yff
def Yfg:List MO:=[
Qa (Qv 38) (Qd (Qn 9)),
Qa (Qv 39) (Qg 5 (Qn 7)),
Qa (Qv 40) (Qf 1 false (Qn 39)),
Qa (Qv 41) (Qk Qt (Qn 40)),
Qa (Qv 42) (Qe Qt Go.BinOp.lss (Qn 38) (Qn 41))]
def Wc3:MC:=.r0 Yfg
def Yfh:List MO:=[
Qa (Qv 45) (Qg 5 (Qn 8)),
Qa (Qv 46) (Qf 1 false (Qn 45)),
Qa (Qv 47) (Qg 5 (Qn 7)),
Qa (Qv 48) (Qf 1 false (Qn 47)),
Qa (Qv 49) (Qd (Qn 9)),
Qa (Qv 50) (Qj 1 (Qn 48) (Qn 49)),
Qa (Qv 51) (Qf 1 false (Qn 50)),
Qa (Qv 52) (Qg 1 (Qn 2)),
Qa (Qv 53) (Qf 1 false (Qn 52)),
Qa (Qv 54) (Qk Qt (Qn 53)),
Qa (Qv 55) (Qe Qt Go.BinOp.add (Qn 51) (Qn 54)),
Qa (Qv 56) (MOp.bslice 1 [(Qr Qu 0)] 1 [(0,(Qn 55))]),
Qa (Qv 57) (MOp.app 3 1 8 (Qn 46) (Qn 56)),
Qa (Qv 58) (Qg 5 (Qn 8)),
Qa none (Ql 1 (Qn 58) (Qn 57))]
def Wc4:MC:=.reg true Yfh
def Yfi:List MO:=[
Qa (Qv 43) (Qd (Qn 9)),
Qa (Qv 44) (Qe Qt Go.BinOp.add (Qn 43) (Qo (Qp (Qq (Qr Qu 1))))),
Qa (Qv 9) (Qd (Qn 44))]
def Wc5:MC:=.r0 Yfi
def Wc6:MC:=.seq Wc2 (.blk 2 (.loop (.seq (.seq Wc3 (.cond (Qn 42) .skip (MC.exit 2))) (.seq (.blk 3 Wc4) Wc5))))
def Yfj:List MO:=[
Qa (Qv 59) (Qg 1 (Qn 5)),
Qa (Qv 60) (Qf 1 false (Qn 59)),
Qa (Qv 61) (Qf 6 true (Qn 8)),
Qa (Qv 62) (MOp.bslice 6 [(Qr Qu 0),(Qr Qu 0),(Qr Qu 0),(D.str (ByteArray.mk #[])),(D.sl []),(D.sl [])] 1 [(0,(Qn 61))]),
Qa (Qv 63) (MOp.app 44 6 88 (Qn 60) (Qn 62)),
Qa (Qv 64) (Qg 1 (Qn 5)),
Qa none (Ql 1 (Qn 64) (Qn 63))]
def Wc7:MC:=.r0 Yfj
def Wc8:MC:=.seq Wp2 (.seq Wc1 (.seq Wc6 Wc7))
def Yfk:List MO:=[
Qa (Qv 24) (Qd (Qn 6)),
Qa (Qv 25) (Qe Qt Go.BinOp.add (Qn 24) (Qo (Qp (Qq (Qr Qu 1))))),
Qa (Qv 6) (Qd (Qn 25))]
def Wc9:MC:=.r0 Yfk
def Wda:MC:=.seq Wp0 (.blk 0 (.loop (.seq (.seq Wp1 (.cond (Qn 23) .skip (MC.exit 0))) (.seq (.blk 1 Wc8) Wc9))))
def Yfl:List MO:=[
Qa (Qv 65) (Qf 2 true (Qn 5)),
Qa none (Ql 2 (Qn 4) (Qn 65))]
def Wdb:MC:=.r0 Yfl
def Wdc:MC:=.seq Wpy (.seq Wpz (.seq Wda (.seq Wdb .ret)))
def Yfm:MC:=.seq Wpx Wdc
attribute [go_sem] Yub Yuc Yud Yue Yuf Yug Yfe Yff Yfg Yfh Yfi Yfj Yfk Yfl
theorem Wt7:KK QP 42 f42 [2,3] Yfm [(RV.cell 4 2 true)] 66:=by refine⟨func42,?_,?_,?_,?_⟩<;>kernel_rfl
theorem Wp3:Xaa QP 42=true:=by kernel_rfl
theorem Wp4 (h:GI QP gp [(RV.cell 4 2 true)] res 66 Yfm args):Xam QP gp 42 args res:=Wt7.i Wp3 h
def Yuh:List MO:=[
Qa (Qv 5) (MOp.box (Qn 0)),
Qa (Qv 7) (MOp.box (Qn 2))]
def Wp5:MC:=.r0 Yuh
def Yui:List MO:=[
Qa (Qv 8) (Qf 1 false (Qn 3)),
Qa (Qv 9) (Qf 2 true (Qn 7)),
Qa (Qv 10) (MOp.lkp false (Qp (Qq (Qs false))) true [Qt,Qt] (Qn 8) (Qn 9)),
Qa (Qv 11) (MOp.not (Qn 10))]
def Wp6:MC:=.r0 Yui
def Yuj:List MO:=[
Qa (Qv 12) (Qf 1 false (Qn 3)),
Qa (Qv 13) (Qf 2 true (Qn 7)),
Qa none (MOp.mupd true [Qt,Qt] (Qn 12) (Qn 13) (Qo (Qp (Qq (Qs true)))))]
def Wp7:MC:=.r0 Yuj
def Yuk:List MO:=[
Qa (Qv 14) (MOp.cld 1 false (Qn 4)),
Qa (Qv 15) (MOp.cld 2 true (Qn 7)),
Qa (Qv 16) (Qg 2 (Qn 5)),
Qa (Qv 17) (MOp.cld 1 false (Qn 16)),
Qa (Qv 18) (MOp.callN 44 [(Qn 17)]),
Qa (Qv 19) (Qd (Qn 1)),
Qa (Qv 20) (MOp.bslice 1 [(Qr Qu 0)] 1 [(0,(Qn 19))]),
Qa (Qv 21) (MOp.appF 3 1 8 (Qn 18) (Qn 20)),
Qa (Qv 22) (MOp.build [(Qr Qu 0),(Qr Qu 0),(D.sl [])] [(0,(2,(Qn 15))),(2,(1,(Qn 21)))]),
Qa (Qv 23) (MOp.bslice 3 [(Qr Qu 0),(Qr Qu 0),(D.sl [])] 1 [(0,(Qn 22))]),
Qa (Qv 24) (MOp.app 68 3 40 (Qn 14) (Qn 23)),
Qa none (Ql 1 (Qn 4) (Qn 24))]
def Wp8:MC:=.reg true Yuk
def Yul:MC:=.seq Wp5 (.seq Wp6 (.cond (Qn 11) (.seq Wp7 Wp8) .skip))
attribute [go_sem] Yuh Yui Yuj Yuk
theorem Wt8:KK QP 43 f43 [3018,4021,2000] Yul [] 25:=by refine⟨func43,?_,?_,?_,?_⟩<;>kernel_rfl
theorem Yum:Xaa QP 43=true:=by kernel_rfl
theorem Wdd (h:GT QP gp [] pre R 25 Yul args):Tri QP gp 43 args pre R:=Wt8.t h
def Yun:List MO:=[
Qa (Qv 4) (MOp.alloc [(Qr Qu 0),(Qr Qu 0),(Qr Qu 0),(D.str (ByteArray.mk #[])),(D.str (ByteArray.mk #[])),(D.str (ByteArray.mk #[]))])]
def Wp9:MC:=.r0 Yun
def Yuo:List MO:=[
Qa (Qv 10) (Qd (Qn 0)),
Qa (Qv 11) (MOp.nck (Qn 10)),
Qa (Qv 12) (Qg 0 (Qn 11)),
Qa (Qv 13) (Qf 2 true (Qn 12)),
Qa (Qv 14) (Qd (Qn 1)),
Qa (Qv 15) (Qh 21 [(Qn 13),(Qn 14)]),
Qa (Qv 9) (Qd (Qn 15)),
Qa (Qv 16) (Qi (Qn 9) 0),
Qa (Qv 17) (Qi (Qn 9) 1),
Qa (Qv 5) (Qd (Qn 16)),
Qa (Qv 6) (Qd (Qn 17))]
def Wqa:MC:=.r0 Yuo
def Yup:List MO:=[
Qa (Qv 18) (Qd (Qn 5)),
Qa (Qv 19) (Qk Qt (Qn 18)),
Qa (Qv 20) (Qd (Qo (Qp (Qq (Qr Qu 0)))))]
def Wqb:MC:=.r0 Yup
def Yuq:List MO:=[
Qa (Qv 21) (Qe Qt Go.BinOp.lss (Qn 20) (Qn 19))]
def Wqc:MC:=.r0 Yuq
def Yur:List MO:=[
Qa (Qv 22) (Qd (Qn 20)),
Qa (Qv 23) (Qj 1 (Qn 18) (Qn 20)),
Qa (Qv 24) (Qf 1 false (Qn 23)),
Qa (Qv 7) (Qd (Qn 22)),
Qa (Qv 8) (Qd (Qn 24))]
def Wqd:MC:=.r0 Yur
def Yus:List MO:=[
Qa (Qv 25) (Qd (Qn 5)),
Qa (Qv 26) (Qd (Qn 7)),
Qa (Qv 27) (Qd (Qn 0)),
Qa (Qv 28) (MOp.nck (Qn 27)),
Qa (Qv 29) (Qg 2 (Qn 28)),
Qa (Qv 30) (Qf 1 false (Qn 29)),
Qa (Qv 31) (Qd (Qn 8)),
Qa (Qv 32) (Qj 1 (Qn 30) (Qn 31)),
Qa (Qv 33) (Qf 1 false (Qn 32)),
Qa (Qv 34) (Qj 1 (Qn 25) (Qn 26)),
Qa none (Ql 1 (Qn 34) (Qn 33))]
def Wqe:MC:=.r0 Yus
def Yfn:List MO:=[
Qa (Qv 35) (Qe Qt Go.BinOp.add (Qn 20) (Qo (Qp (Qq (Qr Qu 1))))),
Qa (Qv 20) (Qd (Qn 35))]
def Wde:MC:=.r0 Yfn
def Wdf:MC:=.seq Wqc (.seq (.cond (Qn 21) .skip (MC.exit 0)) (.seq (.blk 1 (.seq Wqd Wqe)) Wde))
def Yfo:List MO:=[
Qa (Qv 36) (Qd (Qn 0)),
Qa (Qv 37) (MOp.nck (Qn 36)),
Qa (Qv 38) (Qg 0 (Qn 37)),
Qa (Qv 39) (Qg 1 (Qn 38)),
Qa (Qv 40) (Qf 1 false (Qn 39)),
Qa (Qv 41) (Qd (Qn 1)),
Qa (Qv 42) (Qj 6 (Qn 40) (Qn 41)),
Qa (Qv 43) (Qg 0 (Qn 42)),
Qa (Qv 44) (Qf 1 false (Qn 43)),
Qa (Qv 45) (Qd (Qn 0)),
Qa (Qv 46) (MOp.nck (Qn 45)),
Qa (Qv 47) (Qg 0 (Qn 46)),
Qa (Qv 48) (Qg 1 (Qn 47)),
Qa (Qv 49) (Qf 1 false (Qn 48)),
Qa (Qv 50) (Qd (Qn 1)),
Qa (Qv 51) (Qj 6 (Qn 49) (Qn 50)),
Qa (Qv 52) (Qg 1 (Qn 51)),
Qa (Qv 53) (Qf 3 true (Qn 52)),
Qa (Qv 54) (Qd (Qn 0)),
Qa (Qv 55) (Qd (Qn 1)),
Qa (Qv 56) (Qh 74 [(Qn 54),(Qn 55)]),
Qa (Qv 57) (Qd (Qn 5)),
Qa (Qv 58) (Qh 75 [(Qn 57)]),
Qa (Qv 59) (MOp.build [(Qr Qu 0),(Qr Qu 0),(Qr Qu 0),(D.str (ByteArray.mk #[])),(D.str (ByteArray.mk #[])),(D.str (ByteArray.mk #[]))] [(0,(1,(Qn 44))),(1,(3,(Qn 53))),(4,(1,(Qn 56))),(5,(1,(Qn 58)))]),
Qa none (Ql 6 (Qn 4) (Qn 59))]
def Wdg:MC:=.reg true Yfo
def Wdh:MC:=.seq Wqa (.seq (.seq Wqb (.blk 0 (.loop Wdf))) (.seq Wdg .ret))
def Yfp:MC:=.seq Wp9 Wdh
attribute [go_sem] Yun Yuo Yup Yuq Yur Yus Yfn Yfo
theorem Wt9:KK QP 45 f45 [] Yfp [(RV.cell 4 6 true)] 60:=by refine⟨func45,?_,?_,?_,?_⟩<;>kernel_rfl
theorem Wqf:Xaa QP 45=true:=by kernel_rfl
theorem Wqg (h:GI QP gp [(RV.cell 4 6 true)] res 60 Yfp args):Xam QP gp 45 args res:=Wt9.i Wqf h
def Yut:List MO:=[
Qa (Qv 3) (MOp.ibox (Qn 1)),
Qa (Qv 4) (Qd (Qo (Qp (Qq (Qs false)))))]
def Wqh:MC:=.r0 Yut
def Yuu:List MO:=[
Qa (Qv 5) (Qd (Qo (Qp (Qq (Qr Qu 0)))))]
def Wqi:MC:=.r0 Yuu
def Yuv:List MO:=[
Qa (Qv 6) (Qd (Qn 5)),
Qa (Qv 7) (Qd (Qn 0)),
Qa (Qv 8) (Qk Qt (Qn 7)),
Qa (Qv 9) (Qe Qt Go.BinOp.lss (Qn 6) (Qn 8))]
def Wqj:MC:=.r0 Yuv
def Yuw:List MO:=[
Qa (Qv 12) (Qd (Qn 0)),
Qa (Qv 13) (Qd (Qn 5)),
Qa (Qv 14) (Qj 3 (Qn 12) (Qn 13)),
Qa (Qv 15) (Qg 0 (Qn 14)),
Qa (Qv 16) (Qf 2 true (Qn 15)),
Qa (Qv 17) (Qf 2 true (Qn 3)),
Qa (Qv 18) (MOp.eqs false [Qt,Qt] (Qn 16) (Qn 17))]
def Wqk:MC:=.reg true Yuw
def Yux:List MO:=[
Qa (Qv 4) (Qd (Qo (Qp (Qq (Qs true)))))]
def Wql:MC:=.r0 Yux
def Yfq:List MO:=[
Qa (Qv 10) (Qd (Qn 5)),
Qa (Qv 11) (Qe Qt Go.BinOp.add (Qn 10) (Qo (Qp (Qq (Qr Qu 1))))),
Qa (Qv 5) (Qd (Qn 11))]
def Wdi:MC:=.r0 Yfq
def Wdj:MC:=.seq (.seq Wqj (.cond (Qn 9) .skip (MC.exit 0))) (.seq (.blk 1 (.seq Wqk (.cond (Qn 18) (.seq Wql .ret) .skip))) Wdi)
def Yfr:List MO:=[
Qa (Qv 4) (Qd (Qo (Qp (Qq (Qs false)))))]
def Wdk:MC:=.r0 Yfr
def Yfs:MC:=.seq Wqh (.seq (.seq Wqi (.blk 0 (.loop Wdj))) (.seq Wdk .ret))
attribute [go_sem] Yut Yuu Yuv Yuw Yux Yfq Yfr
theorem Wua:KK QP 48 f48 [3] Yfs [(RV.t 4)] 19:=by refine⟨func48,?_,?_,?_,?_⟩<;>kernel_rfl
theorem Wqm:Xaa QP 48=true:=by kernel_rfl
theorem Wqn (h:GI QP gp [(RV.t 4)] res 19 Yfs args):Xam QP gp 48 args res:=Wua.i Wqm h
def Yuy:List MO:=[
Qa (Qv 2) (Qd (Qo (Qp (Qq (Qr Qu 0)))))]
def Wqo:MC:=.r0 Yuy
def Yuz:List MO:=[
Qa (Qv 9) MOp.mkM,
Qa (Qv 3) (MOp.alloc [(D.raw (Go.Value.map none))]),
Qa none (Ql 1 (Qn 3) (Qn 9))]
def Wqp:MC:=.r0 Yuz
def Yu0:List MO:=[
Qa (Qv 10) (Qd (Qn 0)),
Qa (Qv 11) (MOp.nck (Qn 10)),
Qa (Qv 12) (Qg 2 (Qn 11)),
Qa (Qv 13) (Qf 1 false (Qn 12)),
Qa (Qv 14) (Qk Qt (Qn 13)),
Qa (Qv 15) (MOp.mkS 1 8 [(Qr Qu 0)] (Qn 14)),
Qa (Qv 4) (MOp.alloc [(D.sl [])]),
Qa none (Ql 1 (Qn 4) (Qn 15))]
def Wqq:MC:=.r0 Yu0
def Yu1:List MO:=[
Qa (Qv 16) (Qd (Qn 0)),
Qa (Qv 17) (Qh 97 [(Qn 16)])]
def Wqr:MC:=.r0 Yu1
def Yu2:List MO:=[
Qa (Qv 5) (Qd (Qn 18))]
def Wqs:MC:=.r0 Yu2
def Yu3:List MO:=[
Qa (Qv 6) (MOp.alloc [(Qr Qu 0),(Qr Qu 0),(Qr Qu 0),(D.str (ByteArray.mk #[])),(D.str (ByteArray.mk #[])),(D.str (ByteArray.mk #[]))]),
Qa none (Ql 6 (Qn 6) (Qn 19))]
def Wqt:MC:=.r0 Yu3
def Yu4:List MO:=[
Qa (Qv 21) (Qf 1 false (Qn 3)),
Qa (Qv 22) (Qf 6 true (Qn 6)),
Qa (Qv 23) (MOp.lkp true (Qp (Qq (Qr Qu 0))) true [Qt,Qt,Qt,Leaf.s,Leaf.s,Leaf.s] (Qn 21) (Qn 22)),
Qa (Qv 20) (Qd (Qn 23)),
Qa (Qv 24) (Qi (Qn 20) 0),
Qa (Qv 25) (Qi (Qn 20) 1),
Qa (Qv 7) (Qd (Qn 24)),
Qa (Qv 8) (Qd (Qn 25))]
def Wqu:MC:=.r0 Yu4
def Yu5:List MO:=[
Qa (Qv 26) (Qd (Qn 8)),
Qa (Qv 27) (MOp.not (Qn 26))]
def Wqv:MC:=.r0 Yu5
def Yu6:List MO:=[
Qa (Qv 28) (Qf 1 false (Qn 3)),
Qa (Qv 29) (Qf 6 true (Qn 6)),
Qa (Qv 30) (Qf 1 false (Qn 3)),
Qa (Qv 31) (Qk Leaf.b (Qn 30)),
Qa none (MOp.mupd true [Qt,Qt,Qt,Leaf.s,Leaf.s,Leaf.s] (Qn 28) (Qn 29) (Qn 31))]
def Wqw:MC:=.r0 Yu6
def Yft:List MO:=[
Qa (Qv 32) (Qf 1 false (Qn 4)),
Qa (Qv 33) (Qd (Qn 5)),
Qa (Qv 34) (Qf 1 false (Qn 3)),
Qa (Qv 35) (Qf 6 true (Qn 6)),
Qa (Qv 36) (MOp.lkp false (Qp (Qq (Qr Qu 0))) true [Qt,Qt,Qt,Leaf.s,Leaf.s,Leaf.s] (Qn 34) (Qn 35)),
Qa (Qv 37) (Qj 1 (Qn 32) (Qn 33)),
Qa none (Ql 1 (Qn 37) (Qn 36))]
def Wdl:MC:=.reg true Yft
def Wdm:MC:=.seq (.seq Wqu (.seq Wqv (.cond (Qn 27) Wqw .skip))) Wdl
def Wdn:MC:=.rf (Qn 17) [18,19] (.seq Wqs Wqt) (.blk 1 Wdm)
def Yfu:List MO:=[
Qa (Qv 38) (Qd (Qn 0)),
Qa (Qv 39) (MOp.nck (Qn 38)),
Qa (Qv 40) (Qg 2 (Qn 39)),
Qa (Qv 41) (Qf 1 false (Qn 40)),
Qa (Qv 42) (Qf 1 false (Qn 4)),
Qa (Qv 43) (MOp.cpy 1 (Qn 41) (Qn 42))]
def Wdo:MC:=.reg true Yfu
def Yfv:List MO:=[
Qa (Qv 44) (Qf 1 false (Qn 3)),
Qa (Qv 45) (Qk Leaf.b (Qn 44)),
Qa (Qv 2) (Qd (Qn 45))]
def Wdp:MC:=.r0 Yfv
def Wdq:MC:=.seq (.seq Wqr (.blk 0 Wdn)) (.seq Wdo (.seq Wdp .ret))
def Yfw:MC:=.seq Wqo (.seq Wqp (.seq Wqq Wdq))
attribute [go_sem] Yuy Yuz Yu0 Yu1 Yu2 Yu3 Yu4 Yu5 Yu6 Yft Yfu Yfv
theorem Wub:KK QP 71 f71 [] Yfw [(RV.t 2)] 46:=by refine⟨func71,?_,?_,?_,?_⟩<;>kernel_rfl
theorem Yu7:Xaa QP 71=true:=by kernel_rfl
theorem Wdr (h:GT QP gp [(RV.t 2)] pre R 46 Yfw args):Tri QP gp 71 args pre R:=Wub.t h
def Xe0:List MO:=[
Qa (Qv 2) (Qd (Qo (Qp A.nil)))]
def Wqx:MC:=.r0 Xe0
def Xe1:List MO:=[
Qa (Qv 3) (Qd (Qn 0)),
Qa (Qv 4) (MOp.nilq NK.sl false (Qn 3))]
def Wqy:MC:=.r0 Xe1
def Xga:List MO:=[
Qa (Qv 2) (Qd (Qo (Qp A.nil)))]
def Wqz:MC:=.r0 Xga
def Xg3:List MO:=[
Qa (Qv 5) (MOp.bslO 6 [(Qr Qu 0),(Qr Qu 0),(Qr Qu 0),(D.str (ByteArray.mk #[])),(D.sl []),(D.sl [])] 0 []),
Qa (Qv 6) (Qd (Qn 0)),
Qa (Qv 7) (MOp.app 44 6 88 (Qn 5) (Qn 6)),
Qa (Qv 2) (Qd (Qn 7))]
def Wq0:MC:=.r0 Xg3
def Yfx:MC:=.seq Wqx (.seq (.seq Wqy (.cond (Qn 4) (.seq Wqz .ret) .skip)) (.seq Wq0 .ret))
theorem Wuc:KK QP 73 f73 [5] Yfx [(RV.t 2)] 8:=by refine⟨func73,?_,?_,?_,?_⟩<;>kernel_rfl
theorem Wq1:Xaa QP 73=true:=by kernel_rfl
theorem Wds (h:GT QP gp [(RV.t 2)] pre R 8 Yfx args):Tri QP gp 73 args pre R:=Wuc.t h
def Yu8:List MO:=[
Qa (Qv 4) (Qd (Qo (Qp (Qq (D.str (ByteArray.mk #[]))))))]
def Wq2:MC:=.r0 Yu8
def Yu9:List MO:=[
Qa (Qv 13) (Qd (Qn 0)),
Qa (Qv 14) (MOp.nck (Qn 13)),
Qa (Qv 15) (Qg 0 (Qn 14)),
Qa (Qv 16) (Qf 2 true (Qn 15)),
Qa (Qv 17) (Qd (Qn 1)),
Qa (Qv 18) (Qh 64 [(Qn 16),(Qn 17)]),
Qa (Qv 12) (Qd (Qn 18)),
Qa (Qv 19) (Qi (Qn 12) 0),
Qa (Qv 20) (Qi (Qn 12) 1),
Qa (Qv 5) (Qd (Qn 19)),
Qa (Qv 6) (Qd (Qn 20))]
def Wq3:MC:=.r0 Yu9
def Yva:List MO:=[
Qa (Qv 7) (MOp.bldN 169 5)]
def Wq4:MC:=.r0 Yva
def Yvb:List MO:=[
Qa (Qv 21) (Qd (Qn 5)),
Qa (Qv 22) (Qk Qt (Qn 21)),
Qa (Qv 23) (Qd (Qo (Qp (Qq (Qr Qu 0)))))]
def Wq5:MC:=.r0 Yvb
def Yvc:List MO:=[
Qa (Qv 24) (Qe Qt Go.BinOp.lss (Qn 23) (Qn 22))]
def Wq6:MC:=.r0 Yvc
def Yvd:List MO:=[
Qa (Qv 25) (Qj 3 (Qn 21) (Qn 23)),
Qa (Qv 26) (Qf 3 true (Qn 25)),
Qa (Qv 9) (MOp.alloc [(Qr Qu 0),(Qr Qu 0),(D.str (ByteArray.mk #[]))]),
Qa none (Ql 3 (Qn 9) (Qn 26))]
def Wq7:MC:=.r0 Yvd
def Yve:List MO:=[
Qa (Qv 28) (Qf 3 true (Qn 9)),
Qa (Qv 29) (Qh 100 [(Qn 28)]),
Qa (Qv 27) (Qd (Qn 29)),
Qa (Qv 30) (Qi (Qn 27) 0),
Qa (Qv 31) (Qi (Qn 27) 1),
Qa (Qv 10) (Qd (Qn 30)),
Qa (Qv 11) (Qd (Qn 31))]
def Wq8:MC:=.r0 Yve
def Yfy:List MO:=[
Qa (Qv 32) (Qd (Qn 10)),
Qa (Qv 33) (Qe Leaf.s Go.BinOp.add (Qn 32) (Qo (Qp (Qq (D.str (ByteArray.mk #[44])))))),
Qa (Qv 34) (Qh 101 [(Qn 7),(Qn 33)])]
def Wdt:MC:=.r0 Yfy
def Yfz:List MO:=[
Qa (Qv 35) (Qe Qt Go.BinOp.add (Qn 23) (Qo (Qp (Qq (Qr Qu 1))))),
Qa (Qv 23) (Qd (Qn 35))]
def Wdu:MC:=.r0 Yfz
def Wdv:MC:=.seq (.blk 1 (.seq Wq7 (.seq Wq8 Wdt))) Wdu
def Yf0:List MO:=[
Qa (Qv 36) (Qh 102 [(Qn 7)]),
Qa (Qv 4) (Qd (Qn 36))]
def Wdw:MC:=.r0 Yf0
def Wdx:MC:=.seq (.seq Wq5 (.blk 0 (.loop (.seq Wq6 (.seq (.cond (Qn 24) .skip (MC.exit 0)) Wdv))))) (.seq Wdw .ret)
def Yf1:MC:=.seq Wq2 (.seq Wq3 (.seq Wq4 Wdx))
attribute [go_sem] Yu8 Yu9 Yva Yvb Yvc Yvd Yve Yfy Yfz Yf0
theorem Wud:KK QP 74 f74 [] Yf1 [(RV.t 4)] 37:=by refine⟨func74,?_,?_,?_,?_⟩<;>kernel_rfl
theorem Wq9:Xaa QP 74=true:=by kernel_rfl
theorem Wra (h:GI QP gp [(RV.t 4)] res 37 Yf1 args):Xam QP gp 74 args res:=Wud.i Wq9 h
def Yvf:List MO:=[
Qa (Qv 2) (Qd (Qo (Qp (Qq (D.str (ByteArray.mk #[]))))))]
def Wrb:MC:=.r0 Yvf
def Yvg:List MO:=[
Qa (Qv 3) (MOp.bldN 169 5)]
def Wrc:MC:=.r0 Yvg
def Yvh:List MO:=[
Qa (Qv 6) (Qd (Qn 0)),
Qa (Qv 7) (Qk Qt (Qn 6)),
Qa (Qv 8) (Qd (Qo (Qp (Qq (Qr Qu 0)))))]
def Wrd:MC:=.r0 Yvh
def Yvi:List MO:=[
Qa (Qv 9) (Qe Qt Go.BinOp.lss (Qn 8) (Qn 7))]
def Wre:MC:=.r0 Yvi
def Yvj:List MO:=[
Qa (Qv 10) (Qj 1 (Qn 6) (Qn 8)),
Qa (Qv 11) (Qf 1 false (Qn 10)),
Qa (Qv 5) (Qd (Qn 11))]
def Wrf:MC:=.r0 Yvj
def Yvk:List MO:=[
Qa (Qv 12) (Qd (Qn 5)),
Qa (Qv 13) (Qh 103 [(Qn 12)]),
Qa (Qv 14) (Qe Leaf.s Go.BinOp.add (Qn 13) (Qo (Qp (Qq (D.str (ByteArray.mk #[44])))))),
Qa (Qv 15) (Qh 101 [(Qn 3),(Qn 14)])]
def Wrg:MC:=.r0 Yvk
def Yf2:List MO:=[
Qa (Qv 16) (Qe Qt Go.BinOp.add (Qn 8) (Qo (Qp (Qq (Qr Qu 1))))),
Qa (Qv 8) (Qd (Qn 16))]
def Wdy:MC:=.r0 Yf2
def Wdz:MC:=.seq Wre (.seq (.cond (Qn 9) .skip (MC.exit 0)) (.seq (.blk 1 (.seq Wrf Wrg)) Wdy))
def Yf3:List MO:=[
Qa (Qv 17) (Qh 102 [(Qn 3)]),
Qa (Qv 2) (Qd (Qn 17))]
def Wd0:MC:=.r0 Yf3
def Wd1:MC:=.seq Wrc (.seq (.seq Wrd (.blk 0 (.loop Wdz))) (.seq Wd0 .ret))
def Yf4:MC:=.seq Wrb Wd1
attribute [go_sem] Yvf Yvg Yvh Yvi Yvj Yvk Yf2 Yf3
theorem Wue:KK QP 75 f75 [] Yf4 [(RV.t 2)] 18:=by refine⟨func75,?_,?_,?_,?_⟩<;>kernel_rfl
theorem Wrh:Xaa QP 75=true:=by kernel_rfl
theorem Wri (h:GI QP gp [(RV.t 2)] res 18 Yf4 args):Xam QP gp 75 args res:=Wue.i Wrh h
def Yvl:List MO:=[
Qa (Qv 1) (MOp.box (Qn 0)),
Qa (Qv 2) (Qd (Qo (Qp (Qq D.nilF))))]
def Wrj:MC:=.r0 Yvl
def Yvm:List MO:=[
Qa (Qv 3) (MOp.mkF (Go.Fn.func 125) [(Qn 1)]),
Qa (Qv 2) (Qd (Qn 3))]
def Wrk:MC:=.r0 Yvm
def Yvn:MC:=.seq Wrj (.seq Wrk .ret)
attribute [go_sem] Yvl Yvm
theorem Wuf:KK QP 97 f97 [] Yvn [(RV.t 2)] 4:=by refine⟨func97,?_,?_,?_,?_⟩<;>kernel_rfl
theorem Wrl:Xaa QP 97=true:=by kernel_rfl
theorem Wd2 (h:GT QP gp [(RV.t 2)] pre R 4 Yvn args):Tri QP gp 97 args pre R:=Wuf.t h
def Yf5:List MO:=[
Qa (Qv 4) (Qf 1 false (Qn 1)),
Qa (Qv 5) (MOp.nck (Qn 4)),
Qa (Qv 6) (Qg 0 (Qn 5)),
Qa (Qv 7) (Qg 1 (Qn 6)),
Qa (Qv 8) (Qf 1 false (Qn 7)),
Qa (Qv 9) (Qk Qt (Qn 8)),
Qa (Qv 10) (Qd (Qo (Qp (Qq (Qr Qu 0)))))]
def Wd3:MC:=.r0 Yf5
def Yf6:List MO:=[
Qa (Qv 11) (Qe Qt Go.BinOp.lss (Qn 10) (Qn 9))]
def Wd4:MC:=.r0 Yf6
def Yf7:List MO:=[
Qa (Qv 12) (Qd (Qn 10)),
Qa (Qv 3) (Qd (Qn 12))]
def Wd5:MC:=.r0 Yf7
def Yf8:List MO:=[
Qa (Qv 13) (Qd (Qn 0)),
Qa (Qv 14) (Qd (Qn 3)),
Qa (Qv 15) (Qf 1 false (Qn 1)),
Qa (Qv 16) (Qd (Qn 3)),
Qa (Qv 17) (Qh 45 [(Qn 15),(Qn 16)]),
Qa (Qv 18) (MOp.callv (Qn 13) [(Qn 14),(Qn 17)]),
Qa (Qv 19) (MOp.not (Qn 18))]
def Wd6:MC:=.r0 Yf8
def Xyr:List MO:=[
Qa (Qv 20) (Qe Qt Go.BinOp.add (Qn 10) (Qo (Qp (Qq (Qr Qu 1))))),
Qa (Qv 10) (Qd (Qn 20))]
def Yn0:MC:=.r0 Xyr
def Yn1:MC:=.seq Wd4 (.seq (.cond (Qn 11) .skip (MC.exit 0)) (.seq (.blk 1 (.seq Wd5 (.seq Wd6 (.cond (Qn 19) (MC.exit 0) .skip)))) Yn0))
def Xys:MC:=.scope (.seq .skip (.seq Wd3 (.blk 0 (.loop Yn1))))
attribute [go_sem] Yf5 Yf6 Yf7 Yf8 Xyr
theorem Wrm:KK QP 125 f125 [] Xys [] 21:=by refine⟨func125,?_,?_,?_,?_⟩<;>kernel_rfl
theorem Wd7:Xaa QP 125=true:=by kernel_rfl
theorem Yn2 (h:GT QP gp [] pre R 21 Xys args):Tri QP gp 125 args pre R:=Wrm.t h
end Go.Fw.L07
