/- Small codes. -/
import Derived.Test.YtejnfjophhnaeaaGreatDoorFd
import Derived.Test.YtejnfjophhnaeaaGreatDoorProg
set_option linter.all false
namespace Go.Fw.L07
open Go Go.Fw
open Go.Proofs.Tryz renaming prog->QP
open Go.Proofs.Tryz (f104 f105 f106 f107 f108 f121 f122 f123 f124 f127 f134 f136 f137 f143 f144 f145 f147 f154 f155 f156 f157 f158 f159 f173 f174 f175 f176 f186 f20 f21 f29 f35 f36 f39 f44 f47 f49 f50 f51 f52 f53 f64 f68 f69 f70 f72 f76 f77 f78 f79 f80 f81 f82 f83 f84 f85 f86 f94 f95 f96 f99 func104 func105 func106 func107 func108 func121 func122 func123 func124 func127 func134 func136 func137 func143 func144 func145 func147 func154 func155 func156 func157 func158 func159 func173 func174 func175 func176 func186 func20 func21 func29 func35 func36 func39 func44 func47 func49 func50 func51 func52 func53 func64 func68 func69 func70 func72 func76 func77 func78 func79 func80 func81 func82 func83 func84 func85 func86 func94 func95 func96 func99)
open Go.Fw.MO renaming op->Qa,chk->Qb,opx->Qc
open Go.Fw.MOp renaming mv->Qd,bin->Qe,load->Qf,fad->Qg,call->Qh,ext->Qi,iad->Qj,len->Qk,store->Ql,pick->Qm
open Go.Fw.Opd renaming t->Qn,c->Qo
open Go.Fw.V renaming one->Qp
open Go.Fw.A renaming d->Qq
open Go.Fw.D renaming int->Qr,bool->Qs
open Go.Fw.Leaf renaming i->Qt
open Go.IntKind renaming i64->Qu
open Option renaming some->Qv
variable {gp:Xal} {args:List V} {res:V} {pre:List Ch} {R:V->List Ch->Prop}
def Ysy:List MO:=[Qa (Qv 4) (Qd (Qo (Qp (Qq (Qs false)))))]
def Woh:MC:=.r0 Ysy
def Ysz:List MO:=[Qa (Qv 6) (Qd (Qn 0)),Qa (Qv 7) (Qk Qt (Qn 6)),Qa (Qv 8) (Qd (Qn 1)),Qa (Qv 9) (Qk Qt (Qn 8)),Qa (Qv 10) (Qe Qt Go.BinOp.neq (Qn 7) (Qn 9))]
def Woi:MC:=.r0 Ysz
def Ys0:List MO:=[Qa (Qv 4) (Qd (Qo (Qp (Qq (Qs false)))))]
def Woj:MC:=.r0 Ys0
def Ys1:List MO:=[Qa (Qv 5) (Qd (Qo (Qp (Qq (Qr Qu 0)))))]
def Wok:MC:=.r0 Ys1
def Ys2:List MO:=[Qa (Qv 11) (Qd (Qn 5)),Qa (Qv 12) (Qd (Qn 0)),Qa (Qv 13) (Qk Qt (Qn 12)),Qa (Qv 14) (Qe Qt Go.BinOp.lss (Qn 11) (Qn 13))]
def Wol:MC:=.r0 Ys2
def X3d:List MO:=[Qa (Qv 17) (Qd (Qn 0)),Qa (Qv 18) (Qd (Qn 5)),Qa (Qv 19) (Qj 1 (Qn 17) (Qn 18)),Qa (Qv 20) (Qf 1 false (Qn 19)),Qa (Qv 21) (Qd (Qn 1)),Qa (Qv 22) (Qd (Qn 5)),Qa (Qv 23) (Qj 1 (Qn 21) (Qn 22)),Qa (Qv 24) (Qf 1 false (Qn 23)),Qa (Qv 25) (Qe Qt Go.BinOp.neq (Qn 20) (Qn 24))]
def Y2z:MC:=.reg true X3d
def X3e:List MO:=[Qa (Qv 4) (Qd (Qo (Qp (Qq (Qs false)))))]
def Y20:MC:=.r0 X3e
def X3f:List MO:=[Qa (Qv 15) (Qd (Qn 5)),Qa (Qv 16) (Qe Qt Go.BinOp.add (Qn 15) (Qo (Qp (Qq (Qr Qu 1))))),Qa (Qv 5) (Qd (Qn 16))]
def Y21:MC:=.r0 X3f
def Y22:MC:=.seq (.seq Wol (.cond (Qn 14) .skip (MC.exit 0))) (.seq (.blk 1 (.seq Y2z (.cond (Qn 25) (.seq Y20 .ret) .skip))) Y21)
def X3g:List MO:=[Qa (Qv 4) (Qd (Qo (Qp (Qq (Qs true)))))]
def Y23:MC:=.r0 X3g
def Y24:MC:=.seq (.seq Woi (.cond (Qn 10) (.seq Woj .ret) .skip)) (.seq (.seq Wok (.blk 0 (.loop Y22))) (.seq Y23 .ret))
def X3h:MC:=.seq Woh Y24
attribute [go_sem] Ysy Ysz Ys0 Ys1 Ys2 X3d X3e X3f X3g
theorem W4e:KK QP 20 f20 [] X3h [(RV.t 4)] 26:=by refine⟨func20,?_,?_,?_,?_⟩<;>kernel_rfl
theorem Wom:Xaa QP 20=true:=by kernel_rfl
theorem Won (h:GI QP gp [(RV.t 4)] res 26 X3h args):Xak QP gp 20 args res:=W4e.i Wom h
def Xbp:List MO:=[Qa (Qv 2) (MOp.ibox (Qn 0)),Qa (Qv 4) (Qd (Qo (Qp A.nil))),Qa (Qv 5) (Qd (Qo (Qp (Qq (Qr Qu 0)))))]
def Woo:MC:=.r0 Xbp
def Xbq:List MO:=[Qa (Qv 12) (Qf 2 true (Qn 2)),Qa (Qv 13) (Qd (Qn 1)),Qa (Qv 14) (Qh 49 [(Qn 12),(Qn 13)]),Qa (Qv 11) (Qd (Qn 14)),Qa (Qv 15) (Qi (Qn 11) 0),Qa (Qv 16) (Qi (Qn 11) 1),Qa (Qv 6) (MOp.alloc [(Qr Qu 0),(Qr Qu 0),(Qr Qu 0),(D.str (ByteArray.mk #[])),(D.sl []),(D.sl []),(Qr Qu 0)]),Qa none (Ql 7 (Qn 6) (Qn 15)),Qa (Qv 7) (Qd (Qn 16))]
def Wop:MC:=.r0 Xbq
def Xbr:List MO:=[Qa (Qv 17) (Qd (Qn 7)),Qa (Qv 18) (Qe Qt Go.BinOp.eql (Qn 17) (Qo (Qp (Qq (Qr Qu 0))))),Qa (Qv 19) (Qd (Qn 18)),Qb 19 true (Qv 20),Qa (Qv 20) (Qg 0 (Qn 6)),Qb 19 true (Qv 21),Qa (Qv 21) (Qg 0 (Qn 20)),Qb 19 true (Qv 22),Qa (Qv 22) (Qf 1 false (Qn 21)),Qb 19 true (Qv 23),Qa (Qv 23) (Qe Qt Go.BinOp.eql (Qn 22) (Qo (Qp (Qq (Qr Qu 1))))),Qa (Qv 24) (Qm (Qn 19) (Qn 23) (Qo (Qp (Qq (Qs false)))))]
def Woq:MC:=.r0 Xbr
def Xbs:List MO:=[Qa (Qv 25) (Qg 0 (Qn 6)),Qa (Qv 26) (Qg 5 (Qn 25)),Qa (Qv 27) (Qf 1 false (Qn 26)),Qa (Qv 28) (Qh 44 [(Qn 27)]),Qa (Qv 29) (Qd (Qn 7)),Qa (Qv 4) (Qd (Qn 28)),Qa (Qv 5) (Qd (Qn 29))]
def Wor:MC:=.r0 Xbs
def Xbt:List MO:=[Qa (Qv 8) (Qd (Qo (Qp A.nil)))]
def Wos:MC:=.r0 Xbt
def Xa4:List MO:=[Qa (Qv 30) (Qf 7 true (Qn 6)),Qa (Qv 31) (Qh 50 [(Qn 30)]),Qa (Qv 32) (Qk Qt (Qn 31)),Qa (Qv 33) (Qd (Qo (Qp (Qq (Qr Qu 0)))))]
def Y25:MC:=.r0 Xa4
def Xay:List MO:=[Qa (Qv 34) (Qe Qt Go.BinOp.lss (Qn 33) (Qn 32))]
def Y26:MC:=.r0 Xay
def Xa5:List MO:=[Qa (Qv 35) (Qj 4 (Qn 31) (Qn 33)),Qa (Qv 36) (Qf 4 true (Qn 35)),Qa (Qv 10) (MOp.alloc [(Qr Qu 0),(Qr Qu 0),(D.str (ByteArray.mk #[])),(Qr Qu 0)]),Qa none (Ql 4 (Qn 10) (Qn 36))]
def Y27:MC:=.r0 Xa5
def Xa6:List MO:=[Qa (Qv 37) (Qd (Qn 8)),Qa (Qv 38) (Qg 3 (Qn 10)),Qa (Qv 39) (Qf 1 false (Qn 38)),Qa (Qv 40) (MOp.bslice 1 [(Qr Qu 0)] 1 [(0,(Qn 39))]),Qa (Qv 41) (MOp.app 3 1 8 (Qn 37) (Qn 40)),Qa (Qv 8) (Qd (Qn 41))]
def Y28:MC:=.r0 Xa6
def Xa7:List MO:=[Qa (Qv 42) (Qe Qt Go.BinOp.add (Qn 33) (Qo (Qp (Qq (Qr Qu 1))))),Qa (Qv 33) (Qd (Qn 42))]
def Y29:MC:=.r0 Xa7
def Y3a:MC:=.seq Y26 (.seq (.cond (Qn 34) .skip (MC.exit 0)) (.seq (.blk 1 (.seq Y27 Y28)) Y29))
def Xa8:List MO:=[Qa (Qv 43) (Qd (Qn 8)),Qa (Qv 44) (Qd (Qn 7)),Qa (Qv 4) (Qd (Qn 43)),Qa (Qv 5) (Qd (Qn 44))]
def Y3b:MC:=.r0 Xa8
def Y3c:MC:=.seq Wos (.seq (.seq Y25 (.blk 0 (.loop Y3a))) (.seq Y3b .ret))
def Y3d:MC:=.seq Wop (.seq (.seq Woq (.cond (Qn 24) (.seq Wor .ret) .skip)) Y3c)
def Xtd:MC:=.seq Woo Y3d
theorem Wot:KK QP 21 f21 [2] Xtd [(RV.t 4),(RV.t 5)] 45:=by refine⟨func21,?_,?_,?_,?_⟩<;>kernel_rfl
theorem Ys3:Xaa QP 21=true:=by kernel_rfl
theorem Wou (h:GI QP gp [(RV.t 4),(RV.t 5)] res 45 Xtd args):Xak QP gp 21 args res:=Wot.i Ys3 h
theorem Y3e (h:GT QP gp [(RV.t 4),(RV.t 5)] pre R 45 Xtd args):Tri QP gp 21 args pre R:=Wot.t h
def Ys4:List MO:=[Qa (Qv 2) (MOp.ibox (Qn 0)),Qa (Qv 3) (MOp.ibox (Qn 1)),Qa (Qv 4) (Qd (Qo (Qp (Qq (Qs false)))))]
def Wov:MC:=.r0 Ys4
def Ys5:List MO:=[Qa (Qv 8) (Qg 0 (Qn 2)),Qa (Qv 9) (Qf 1 false (Qn 8)),Qa (Qv 10) (Qg 0 (Qn 3)),Qa (Qv 11) (Qf 1 false (Qn 10)),Qa (Qv 12) (Qe Qt Go.BinOp.neq (Qn 9) (Qn 11)),Qa (Qv 13) (Qd (Qn 12)),Qb 13 false (Qv 14),Qa (Qv 14) (Qg 1 (Qn 2)),Qb 13 false (Qv 15),Qa (Qv 15) (Qf 1 false (Qn 14)),Qb 13 false (Qv 16),Qa (Qv 16) (Qk Qt (Qn 15)),Qb 13 false (Qv 17),Qa (Qv 17) (Qg 1 (Qn 3)),Qb 13 false (Qv 18),Qa (Qv 18) (Qf 1 false (Qn 17)),Qb 13 false (Qv 19),Qa (Qv 19) (Qk Qt (Qn 18)),Qb 13 false (Qv 20),Qa (Qv 20) (Qe Qt Go.BinOp.neq (Qn 16) (Qn 19)),Qa (Qv 21) (Qm (Qn 13) (Qo (Qp (Qq (Qs true)))) (Qn 20))]
def Wow:MC:=.r0 Ys5
def Ys6:List MO:=[Qa (Qv 4) (Qd (Qo (Qp (Qq (Qs false)))))]
def Wox:MC:=.r0 Ys6
def Ys7:List MO:=[Qa (Qv 5) (Qd (Qo (Qp (Qq (Qr Qu 0)))))]
def Woy:MC:=.r0 Ys7
def Ys8:List MO:=[Qa (Qv 22) (Qd (Qn 5)),Qa (Qv 23) (Qg 1 (Qn 2)),Qa (Qv 24) (Qf 1 false (Qn 23)),Qa (Qv 25) (Qk Qt (Qn 24)),Qa (Qv 26) (Qe Qt Go.BinOp.lss (Qn 22) (Qn 25))]
def Woz:MC:=.r0 Ys8
def X3i:List MO:=[Qa (Qv 29) (Qg 1 (Qn 2)),Qa (Qv 30) (Qf 1 false (Qn 29)),Qa (Qv 31) (Qd (Qn 5)),Qa (Qv 32) (Qj 6 (Qn 30) (Qn 31)),Qa (Qv 33) (Qf 6 true (Qn 32)),Qa (Qv 6) (MOp.alloc [(Qr Qu 0),(Qr Qu 0),(Qr Qu 0),(D.str (ByteArray.mk #[])),(D.sl []),(D.sl [])]),Qa none (Ql 6 (Qn 6) (Qn 33))]
def Y3f:MC:=.r0 X3i
def X3j:List MO:=[Qa (Qv 34) (Qg 1 (Qn 3)),Qa (Qv 35) (Qf 1 false (Qn 34)),Qa (Qv 36) (Qd (Qn 5)),Qa (Qv 37) (Qj 6 (Qn 35) (Qn 36)),Qa (Qv 38) (Qf 6 true (Qn 37)),Qa (Qv 7) (MOp.alloc [(Qr Qu 0),(Qr Qu 0),(Qr Qu 0),(D.str (ByteArray.mk #[])),(D.sl []),(D.sl [])]),Qa none (Ql 6 (Qn 7) (Qn 38))]
def Y3g:MC:=.r0 X3j
def X3k:List MO:=[Qa (Qv 39) (Qg 0 (Qn 6)),Qa (Qv 40) (Qf 1 false (Qn 39)),Qa (Qv 41) (Qg 0 (Qn 7)),Qa (Qv 42) (Qf 1 false (Qn 41)),Qa (Qv 43) (Qe Qt Go.BinOp.neq (Qn 40) (Qn 42)),Qa (Qv 44) (Qd (Qn 43)),Qb 44 false (Qv 45),Qa (Qv 45) (Qg 1 (Qn 6)),Qb 44 false (Qv 46),Qa (Qv 46) (Qf 3 true (Qn 45)),Qb 44 false (Qv 47),Qa (Qv 47) (Qg 1 (Qn 7)),Qb 44 false (Qv 48),Qa (Qv 48) (Qf 3 true (Qn 47)),Qb 44 false (Qv 49),Qa (Qv 49) (MOp.eqs true [Qt,Qt,Leaf.s] (Qn 46) (Qn 48)),Qa (Qv 50) (Qm (Qn 44) (Qo (Qp (Qq (Qs true)))) (Qn 49)),Qa (Qv 51) (Qd (Qn 50)),Qb 51 false (Qv 52),Qa (Qv 52) (Qg 4 (Qn 6)),Qb 51 false (Qv 53),Qa (Qv 53) (Qf 1 false (Qn 52)),Qb 51 false (Qv 54),Qa (Qv 54) (Qg 4 (Qn 7)),Qb 51 false (Qv 55),Qa (Qv 55) (Qf 1 false (Qn 54)),Qb 51 false (Qv 56),Qa (Qv 56) (Qh 52 [(Qn 53),(Qn 55)]),Qb 51 false (Qv 57),Qa (Qv 57) (MOp.not (Qn 56)),Qa (Qv 58) (Qm (Qn 51) (Qo (Qp (Qq (Qs true)))) (Qn 57)),Qa (Qv 59) (Qd (Qn 58)),Qb 59 false (Qv 60),Qa (Qv 60) (Qg 5 (Qn 6)),Qb 59 false (Qv 61),Qa (Qv 61) (Qf 1 false (Qn 60)),Qb 59 false (Qv 62),Qa (Qv 62) (Qg 5 (Qn 7)),Qb 59 false (Qv 63),Qa (Qv 63) (Qf 1 false (Qn 62)),Qb 59 false (Qv 64),Qa (Qv 64) (Qh 20 [(Qn 61),(Qn 63)]),Qb 59 false (Qv 65),Qa (Qv 65) (MOp.not (Qn 64)),Qa (Qv 66) (Qm (Qn 59) (Qo (Qp (Qq (Qs true)))) (Qn 65))]
def Y3h:MC:=.r0 X3k
def X3l:List MO:=[Qa (Qv 4) (Qd (Qo (Qp (Qq (Qs false)))))]
def Y3i:MC:=.r0 X3l
def Y3j:MC:=.seq Y3f (.seq Y3g (.seq Y3h (.cond (Qn 66) (.seq Y3i .ret) .skip)))
def X3m:List MO:=[Qa (Qv 27) (Qd (Qn 5)),Qa (Qv 28) (Qe Qt Go.BinOp.add (Qn 27) (Qo (Qp (Qq (Qr Qu 1))))),Qa (Qv 5) (Qd (Qn 28))]
def Y3k:MC:=.r0 X3m
def Y3l:MC:=.seq Woy (.blk 0 (.loop (.seq (.seq Woz (.cond (Qn 26) .skip (MC.exit 0))) (.seq (.blk 1 Y3j) Y3k))))
def X3n:List MO:=[Qa (Qv 4) (Qd (Qo (Qp (Qq (Qs true)))))]
def Y3m:MC:=.r0 X3n
def Y3n:MC:=.seq (.seq Wow (.cond (Qn 21) (.seq Wox .ret) .skip)) (.seq Y3l (.seq Y3m .ret))
def X3o:MC:=.seq Wov Y3n
attribute [go_sem] Ys4 Ys5 Ys6 Ys7 Ys8 X3i X3j X3k X3l X3m X3n
theorem W4f:KK QP 29 f29 [2,3] X3o [(RV.t 4)] 67:=by refine⟨func29,?_,?_,?_,?_⟩<;>kernel_rfl
theorem Wo0:Xaa QP 29=true:=by kernel_rfl
theorem Wo1 (h:GI QP gp [(RV.t 4)] res 67 X3o args):Xak QP gp 29 args res:=W4f.i Wo0 h
def Ys9:List MO:=[Qa (Qv 1) (MOp.ibox (Qn 0)),Qa (Qv 2) (MOp.alloc [(Qr Qu 0),(D.sl [])])]
def Wo2:MC:=.r0 Ys9
def Yta:List MO:=[Qa (Qv 9) (Qg 0 (Qn 1)),Qa (Qv 10) (Qf 1 false (Qn 9)),Qa (Qv 11) (MOp.build [(Qr Qu 0),(D.sl [])] [(0,(1,(Qn 10)))]),Qa (Qv 3) (MOp.alloc [(Qr Qu 0),(D.sl [])]),Qa none (Ql 2 (Qn 3) (Qn 11))]
def Wo3:MC:=.r0 Yta
def Ytb:List MO:=[Qa (Qv 4) (Qd (Qo (Qp (Qq (Qr Qu 0)))))]
def Wo4:MC:=.r0 Ytb
def Ytc:List MO:=[Qa (Qv 12) (Qd (Qn 4)),Qa (Qv 13) (Qg 1 (Qn 1)),Qa (Qv 14) (Qf 1 false (Qn 13)),Qa (Qv 15) (Qk Qt (Qn 14)),Qa (Qv 16) (Qe Qt Go.BinOp.lss (Qn 12) (Qn 15)),Qa (Qv 17) (Qd (Qn 16)),Qb 17 true (Qv 18),Qa (Qv 18) (Qd (Qn 4)),Qb 17 true (Qv 19),Qa (Qv 19) (Qe Qt Go.BinOp.lss (Qn 18) (Qo (Qp (Qq (Qr Qu 201))))),Qa (Qv 20) (Qm (Qn 17) (Qn 19) (Qo (Qp (Qq (Qs false)))))]
def Wo5:MC:=.r0 Ytc
def Ytd:List MO:=[Qa (Qv 23) (Qg 1 (Qn 1)),Qa (Qv 24) (Qf 1 false (Qn 23)),Qa (Qv 25) (Qd (Qn 4)),Qa (Qv 26) (Qj 6 (Qn 24) (Qn 25)),Qa (Qv 27) (Qf 6 true (Qn 26)),Qa (Qv 5) (MOp.alloc [(Qr Qu 0),(Qr Qu 0),(Qr Qu 0),(D.str (ByteArray.mk #[])),(D.sl []),(D.sl [])]),Qa none (Ql 6 (Qn 5) (Qn 27))]
def Wo6:MC:=.r0 Ytd
def Yte:List MO:=[Qa (Qv 28) (Qg 0 (Qn 5)),Qa (Qv 29) (Qf 1 false (Qn 28)),Qa (Qv 30) (Qg 1 (Qn 5)),Qa (Qv 31) (Qf 3 true (Qn 30)),Qa (Qv 32) (Qh 68 [(Qn 31)]),Qa (Qv 33) (MOp.build [(Qr Qu 0),(Qr Qu 0),(Qr Qu 0),(D.str (ByteArray.mk #[])),(D.sl []),(D.sl [])] [(0,(1,(Qn 29))),(1,(3,(Qn 32)))]),Qa (Qv 6) (MOp.alloc [(Qr Qu 0),(Qr Qu 0),(Qr Qu 0),(D.str (ByteArray.mk #[])),(D.sl []),(D.sl [])]),Qa none (Ql 6 (Qn 6) (Qn 33))]
def Wo7:MC:=.reg true Yte
def X3p:List MO:=[Qa (Qv 7) (Qd (Qo (Qp (Qq (Qr Qu 0)))))]
def Y3o:MC:=.r0 X3p
def X3q:List MO:=[Qa (Qv 34) (Qd (Qn 7)),Qa (Qv 35) (Qg 4 (Qn 5)),Qa (Qv 36) (Qf 1 false (Qn 35)),Qa (Qv 37) (Qk Qt (Qn 36)),Qa (Qv 38) (Qe Qt Go.BinOp.lss (Qn 34) (Qn 37)),Qa (Qv 39) (Qd (Qn 38)),Qb 39 true (Qv 40),Qa (Qv 40) (Qd (Qn 7)),Qb 39 true (Qv 41),Qa (Qv 41) (Qe Qt Go.BinOp.lss (Qn 40) (Qo (Qp (Qq (Qr Qu 12))))),Qa (Qv 42) (Qm (Qn 39) (Qn 41) (Qo (Qp (Qq (Qs false)))))]
def Y3p:MC:=.r0 X3q
def X3r:List MO:=[Qa (Qv 45) (Qg 4 (Qn 6)),Qa (Qv 46) (Qf 1 false (Qn 45)),Qa (Qv 47) (Qg 4 (Qn 5)),Qa (Qv 48) (Qf 1 false (Qn 47)),Qa (Qv 49) (Qd (Qn 7)),Qa (Qv 50) (Qj 3 (Qn 48) (Qn 49)),Qa (Qv 51) (Qf 3 true (Qn 50)),Qa (Qv 52) (Qh 68 [(Qn 51)]),Qa (Qv 53) (MOp.bslice 3 [(Qr Qu 0),(Qr Qu 0),(D.str (ByteArray.mk #[]))] 1 [(0,(Qn 52))]),Qa (Qv 54) (MOp.app 41 3 32 (Qn 46) (Qn 53)),Qa (Qv 55) (Qg 4 (Qn 6)),Qa none (Ql 1 (Qn 55) (Qn 54))]
def Y3q:MC:=.reg true X3r
def X3s:List MO:=[Qa (Qv 43) (Qd (Qn 7)),Qa (Qv 44) (Qe Qt Go.BinOp.add (Qn 43) (Qo (Qp (Qq (Qr Qu 1))))),Qa (Qv 7) (Qd (Qn 44))]
def Y3r:MC:=.r0 X3s
def Y3s:MC:=.seq Y3o (.blk 2 (.loop (.seq (.seq Y3p (.cond (Qn 42) .skip (MC.exit 2))) (.seq (.blk 3 Y3q) Y3r))))
def X3t:List MO:=[Qa (Qv 8) (Qd (Qo (Qp (Qq (Qr Qu 0)))))]
def Y3t:MC:=.r0 X3t
def X3u:List MO:=[Qa (Qv 56) (Qd (Qn 8)),Qa (Qv 57) (Qg 5 (Qn 5)),Qa (Qv 58) (Qf 1 false (Qn 57)),Qa (Qv 59) (Qk Qt (Qn 58)),Qa (Qv 60) (Qe Qt Go.BinOp.lss (Qn 56) (Qn 59)),Qa (Qv 61) (Qd (Qn 60)),Qb 61 true (Qv 62),Qa (Qv 62) (Qd (Qn 8)),Qb 61 true (Qv 63),Qa (Qv 63) (Qe Qt Go.BinOp.lss (Qn 62) (Qo (Qp (Qq (Qr Qu 12))))),Qa (Qv 64) (Qm (Qn 61) (Qn 63) (Qo (Qp (Qq (Qs false)))))]
def Y3u:MC:=.r0 X3u
def X3v:List MO:=[Qa (Qv 67) (Qg 5 (Qn 6)),Qa (Qv 68) (Qf 1 false (Qn 67)),Qa (Qv 69) (Qg 5 (Qn 5)),Qa (Qv 70) (Qf 1 false (Qn 69)),Qa (Qv 71) (Qd (Qn 8)),Qa (Qv 72) (Qj 1 (Qn 70) (Qn 71)),Qa (Qv 73) (Qf 1 false (Qn 72)),Qa (Qv 74) (MOp.bslice 1 [(Qr Qu 0)] 1 [(0,(Qn 73))]),Qa (Qv 75) (MOp.app 3 1 8 (Qn 68) (Qn 74)),Qa (Qv 76) (Qg 5 (Qn 6)),Qa none (Ql 1 (Qn 76) (Qn 75))]
def Y3v:MC:=.reg true X3v
def X3w:List MO:=[Qa (Qv 65) (Qd (Qn 8)),Qa (Qv 66) (Qe Qt Go.BinOp.add (Qn 65) (Qo (Qp (Qq (Qr Qu 1))))),Qa (Qv 8) (Qd (Qn 66))]
def Y3w:MC:=.r0 X3w
def Y3x:MC:=.seq Y3t (.blk 4 (.loop (.seq (.seq Y3u (.cond (Qn 64) .skip (MC.exit 4))) (.seq (.blk 5 Y3v) Y3w))))
def X3x:List MO:=[Qa (Qv 77) (Qg 1 (Qn 3)),Qa (Qv 78) (Qf 1 false (Qn 77)),Qa (Qv 79) (Qf 6 true (Qn 6)),Qa (Qv 80) (MOp.bslice 6 [(Qr Qu 0),(Qr Qu 0),(Qr Qu 0),(D.str (ByteArray.mk #[])),(D.sl []),(D.sl [])] 1 [(0,(Qn 79))]),Qa (Qv 81) (MOp.app 44 6 88 (Qn 78) (Qn 80)),Qa (Qv 82) (Qg 1 (Qn 3)),Qa none (Ql 1 (Qn 82) (Qn 81))]
def Y3y:MC:=.r0 X3x
def Y3z:MC:=.seq Wo7 (.seq Y3s (.seq Y3x Y3y))
def X3y:List MO:=[Qa (Qv 21) (Qd (Qn 4)),Qa (Qv 22) (Qe Qt Go.BinOp.add (Qn 21) (Qo (Qp (Qq (Qr Qu 1))))),Qa (Qv 4) (Qd (Qn 22))]
def Y30:MC:=.r0 X3y
def Y31:MC:=.seq (.seq Wo5 (.cond (Qn 20) .skip (MC.exit 0))) (.seq (.blk 1 (.seq Wo6 Y3z)) Y30)
def X3z:List MO:=[Qa (Qv 83) (Qf 2 true (Qn 3)),Qa none (Ql 2 (Qn 2) (Qn 83))]
def Y32:MC:=.r0 X3z
def Y33:MC:=.seq Wo3 (.seq (.seq Wo4 (.blk 0 (.loop Y31))) (.seq Y32 .ret))
def X30:MC:=.seq Wo2 Y33
attribute [go_sem] Ys9 Yta Ytb Ytc Ytd Yte X3p X3q X3r X3s X3t X3u X3v X3w X3x X3y X3z
theorem W4g:KK QP 35 f35 [1] X30 [(RV.cell 2 2 true)] 84:=by refine⟨func35,?_,?_,?_,?_⟩<;>kernel_rfl
theorem Wo8:Xaa QP 35=true:=by kernel_rfl
theorem Wo9 (h:GI QP gp [(RV.cell 2 2 true)] res 84 X30 args):Xak QP gp 35 args res:=W4g.i Wo8 h
def Ytf:List MO:=[Qa (Qv 1) (MOp.ibox (Qn 0)),Qa (Qv 2) (Qd (Qo (Qp (Qq (Qr Qu 0))))),Qa (Qv 3) (Qd (Qo (Qp (Qq (Qr Qu 0)))))]
def Wpa:MC:=.r0 Ytf
def Ytg:List MO:=[Qa (Qv 4) (Qf 2 true (Qn 1)),Qa (Qv 5) (Qh 70 [(Qn 4)]),Qa (Qv 6) (Qh 69 [(Qn 5)]),Qa (Qv 7) (Qi (Qn 6) 0),Qa (Qv 8) (Qi (Qn 6) 1),Qa (Qv 2) (Qd (Qn 7)),Qa (Qv 3) (Qd (Qn 8))]
def Wpb:MC:=.r0 Ytg
def Yth:MC:=.seq Wpa (.seq Wpb .ret)
attribute [go_sem] Ytf Ytg
theorem W4h:KK QP 36 f36 [1] Yth [(RV.t 2),(RV.t 3)] 9:=by refine⟨func36,?_,?_,?_,?_⟩<;>kernel_rfl
theorem Wpc:Xaa QP 36=true:=by kernel_rfl
theorem Wpd (h:GI QP gp [(RV.t 2),(RV.t 3)] res 9 Yth args):Xak QP gp 36 args res:=W4h.i Wpc h
def Yti:List MO:=[Qa (Qv 1) (MOp.ibox (Qn 0)),Qa (Qv 2) (Qd (Qo (Qp (Qq (Qr Qu 0))))),Qa (Qv 3) (Qd (Qo (Qp (Qq (Qr Qu 0)))))]
def Wpe:MC:=.r0 Yti
def Ytj:List MO:=[Qa (Qv 5) (Qg 1 (Qn 1)),Qa (Qv 6) (Qf 1 false (Qn 5)),Qa (Qv 7) (Qk Qt (Qn 6)),Qa (Qv 8) (Qe Qt Go.BinOp.gtr (Qn 7) (Qo (Qp (Qq (Qr Qu 200)))))]
def Wpf:MC:=.r0 Ytj
def Ytk:List MO:=[Qa (Qv 2) (Qd (Qo (Qp (Qq (Qr Qu 0))))),Qa (Qv 3) (Qd (Qo (Qp (Qq (Qr Qu 71)))))]
def Wpg:MC:=.r0 Ytk
def Ytl:List MO:=[Qa (Qv 9) (Qg 0 (Qn 1)),Qa (Qv 10) (Qf 1 false (Qn 9)),Qa (Qv 11) (Qe Qt Go.BinOp.lss (Qn 10) (Qo (Qp (Qq (Qr Qu 0))))),Qa (Qv 12) (Qd (Qn 11)),Qb 12 false (Qv 13),Qa (Qv 13) (Qg 0 (Qn 1)),Qb 12 false (Qv 14),Qa (Qv 14) (Qf 1 false (Qn 13)),Qb 12 false (Qv 15),Qa (Qv 15) (Qg 1 (Qn 1)),Qb 12 false (Qv 16),Qa (Qv 16) (Qf 1 false (Qn 15)),Qb 12 false (Qv 17),Qa (Qv 17) (Qk Qt (Qn 16)),Qb 12 false (Qv 18),Qa (Qv 18) (Qe Qt Go.BinOp.geq (Qn 14) (Qn 17)),Qa (Qv 19) (Qm (Qn 12) (Qo (Qp (Qq (Qs true)))) (Qn 18))]
def Wph:MC:=.r0 Ytl
def Ytm:List MO:=[Qa (Qv 2) (Qd (Qo (Qp (Qq (Qr Qu (-1)))))),Qa (Qv 3) (Qd (Qo (Qp (Qq (Qr Qu 70)))))]
def Wpi:MC:=.r0 Ytm
def X31:List MO:=[Qa (Qv 4) (Qd (Qo (Qp (Qq (Qr Qu 0)))))]
def Y34:MC:=.r0 X31
def X32:List MO:=[Qa (Qv 20) (Qd (Qn 4)),Qa (Qv 21) (Qg 1 (Qn 1)),Qa (Qv 22) (Qf 1 false (Qn 21)),Qa (Qv 23) (Qk Qt (Qn 22)),Qa (Qv 24) (Qe Qt Go.BinOp.lss (Qn 20) (Qn 23))]
def Y35:MC:=.r0 X32
def X33:List MO:=[Qa (Qv 27) (Qg 1 (Qn 1)),Qa (Qv 28) (Qf 1 false (Qn 27)),Qa (Qv 29) (Qd (Qn 4)),Qa (Qv 30) (Qj 6 (Qn 28) (Qn 29)),Qa (Qv 31) (Qf 6 true (Qn 30)),Qa (Qv 32) (Qg 1 (Qn 1)),Qa (Qv 33) (Qf 1 false (Qn 32)),Qa (Qv 34) (Qk Qt (Qn 33)),Qc (Qv 35) (Qh 72 [(Qn 31),(Qn 34)]),Qa (Qv 36) (MOp.not (Qn 35))]
def Y36:MC:=.reg true X33
def X34:List MO:=[Qa (Qv 37) (Qd (Qn 4)),Qa (Qv 2) (Qd (Qn 37)),Qa (Qv 3) (Qd (Qo (Qp (Qq (Qr Qu 70)))))]
def Y37:MC:=.r0 X34
def X35:List MO:=[Qa (Qv 25) (Qd (Qn 4)),Qa (Qv 26) (Qe Qt Go.BinOp.add (Qn 25) (Qo (Qp (Qq (Qr Qu 1))))),Qa (Qv 4) (Qd (Qn 26))]
def Y38:MC:=.r0 X35
def Y39:MC:=.seq (.seq Y35 (.cond (Qn 24) .skip (MC.exit 0))) (.seq (.blk 1 (.seq Y36 (.cond (Qn 36) (.seq Y37 .ret) .skip))) Y38)
def X36:List MO:=[Qa (Qv 2) (Qd (Qo (Qp (Qq (Qr Qu 0))))),Qa (Qv 3) (Qd (Qo (Qp (Qq (Qr Qu 0)))))]
def Y4a:MC:=.r0 X36
def Y4b:MC:=.seq (.seq Wph (.cond (Qn 19) (.seq Wpi .ret) .skip)) (.seq (.seq Y34 (.blk 0 (.loop Y39))) (.seq Y4a .ret))
def X37:MC:=.seq Wpe (.seq (.seq Wpf (.cond (Qn 8) (.seq Wpg .ret) .skip)) Y4b)
attribute [go_sem] Yti Ytj Ytk Ytl Ytm X31 X32 X33 X34 X35 X36
theorem W4i:KK QP 39 f39 [1] X37 [(RV.t 2),(RV.t 3)] 38:=by refine⟨func39,?_,?_,?_,?_⟩<;>kernel_rfl
theorem Wpj:Xaa QP 39=true:=by kernel_rfl
theorem Wpk (h:GI QP gp [(RV.t 2),(RV.t 3)] res 38 X37 args):Xak QP gp 39 args res:=W4i.i Wpj h
def Xb2:List MO:=[Qa (Qv 2) (Qd (Qo (Qp A.nil)))]
def Wpl:MC:=.r0 Xb2
def Xb3:List MO:=[Qa (Qv 3) (Qd (Qn 0)),Qa (Qv 4) (MOp.nilq NK.sl false (Qn 3))]
def Wpm:MC:=.r0 Xb3
def Xc2:List MO:=[Qa (Qv 2) (Qd (Qo (Qp A.nil)))]
def Wpn:MC:=.r0 Xc2
def Xc6:List MO:=[Qa (Qv 5) (MOp.bslO 1 [(Qr Qu 0)] 0 []),Qa (Qv 6) (Qd (Qn 0)),Qa (Qv 7) (MOp.app 3 1 8 (Qn 5) (Qn 6)),Qa (Qv 2) (Qd (Qn 7))]
def Wpo:MC:=.r0 Xc6
def Xte:MC:=.seq Wpl (.seq (.seq Wpm (.cond (Qn 4) (.seq Wpn .ret) .skip)) (.seq Wpo .ret))
theorem Wpp:KK QP 44 f44 [5] Xte [(RV.t 2)] 8:=by refine⟨func44,?_,?_,?_,?_⟩<;>kernel_rfl
theorem Ytn:Xaa QP 44=true:=by kernel_rfl
theorem Wpq (h:GI QP gp [(RV.t 2)] res 8 Xte args):Xak QP gp 44 args res:=Wpp.i Ytn h
theorem Y4c (h:GT QP gp [(RV.t 2)] pre R 8 Xte args):Tri QP gp 44 args pre R:=Wpp.t h
def Xdu:List MO:=[Qa (Qv 2) (MOp.ibox (Qn 0)),Qa (Qv 4) (Qd (Qo (Qp A.nil))),Qa (Qv 5) (Qd (Qo (Qp (Qq (Qr Qu 0)))))]
def Wpr:MC:=.r0 Xdu
def Xdv:List MO:=[Qa (Qv 10) (Qd (Qn 1)),Qa (Qv 11) (Qe Qt Go.BinOp.lss (Qn 10) (Qo (Qp (Qq (Qr Qu 0))))),Qa (Qv 12) (Qd (Qn 11)),Qb 12 false (Qv 13),Qa (Qv 13) (Qd (Qn 1)),Qb 12 false (Qv 14),Qa (Qv 14) (Qg 1 (Qn 2)),Qb 12 false (Qv 15),Qa (Qv 15) (Qf 1 false (Qn 14)),Qb 12 false (Qv 16),Qa (Qv 16) (Qk Qt (Qn 15)),Qb 12 false (Qv 17),Qa (Qv 17) (Qe Qt Go.BinOp.geq (Qn 13) (Qn 16)),Qa (Qv 18) (Qm (Qn 12) (Qo (Qp (Qq (Qs true)))) (Qn 17))]
def Wps:MC:=.r0 Xdv
def Xdw:List MO:=[Qa (Qv 4) (Qd (Qo (Qp A.nil))),Qa (Qv 5) (Qd (Qo (Qp (Qq (Qr Qu 2)))))]
def Wpt:MC:=.r0 Xdw
def Xdx:List MO:=[Qa (Qv 19) (Qg 1 (Qn 2)),Qa (Qv 20) (Qf 1 false (Qn 19)),Qa (Qv 21) (Qd (Qn 1)),Qa (Qv 22) (Qj 6 (Qn 20) (Qn 21)),Qa (Qv 23) (Qf 6 true (Qn 22)),Qa (Qv 6) (MOp.alloc [(Qr Qu 0),(Qr Qu 0),(Qr Qu 0),(D.str (ByteArray.mk #[])),(D.sl []),(D.sl [])]),Qa none (Ql 6 (Qn 6) (Qn 23))]
def Wpu:MC:=.r0 Xdx
def Xdy:List MO:=[Qa (Qv 7) (Qd (Qo (Qp A.nil)))]
def Wpv:MC:=.r0 Xdy
def Xb6:List MO:=[Qa (Qv 24) (Qg 0 (Qn 6)),Qa (Qv 25) (Qf 1 false (Qn 24)),Qa (Qv 26) (Qe Qt Go.BinOp.eql (Qn 25) (Qo (Qp (Qq (Qr Qu 1)))))]
def Y4d:MC:=.r0 Xb6
def Xcw:List MO:=[Qa (Qv 27) (Qd (Qn 7)),Qa (Qv 28) (Qg 5 (Qn 6)),Qa (Qv 29) (Qf 1 false (Qn 28)),Qa (Qv 30) (MOp.app 3 1 8 (Qn 27) (Qn 29)),Qa (Qv 4) (Qd (Qn 30)),Qa (Qv 5) (Qd (Qo (Qp (Qq (Qr Qu 0)))))]
def Y4e:MC:=.r0 Xcw
def Xb7:List MO:=[Qa (Qv 31) (Qf 6 true (Qn 6)),Qa (Qv 32) (Qh 76 [(Qn 31)])]
def Y4f:MC:=.r0 Xb7
def Xb8:List MO:=[Qa (Qv 33) (Qf 6 true (Qn 6)),Qa (Qv 34) (Qh 77 [(Qn 33)]),Qa (Qv 8) (Qd (Qn 34))]
def Y4g:MC:=.r0 Xb8
def Xb9:List MO:=[Qa (Qv 9) (Qd (Qo (Qp (Qq (Qr Qu 0)))))]
def Y4h:MC:=.r0 Xb9
def Xca:List MO:=[Qa (Qv 35) (Qd (Qn 9)),Qa (Qv 36) (Qd (Qn 8)),Qa (Qv 37) (Qk Qt (Qn 36)),Qa (Qv 38) (Qe Qt Go.BinOp.lss (Qn 35) (Qn 37))]
def Y4i:MC:=.r0 Xca
def Xcb:List MO:=[Qa (Qv 41) (Qd (Qn 7)),Qa (Qv 42) (Qg 5 (Qn 6)),Qa (Qv 43) (Qf 1 false (Qn 42)),Qa (Qv 44) (Qd (Qn 8)),Qa (Qv 45) (Qd (Qn 9)),Qa (Qv 46) (Qj 1 (Qn 44) (Qn 45)),Qa (Qv 47) (Qf 1 false (Qn 46)),Qa (Qv 48) (Qj 1 (Qn 43) (Qn 47)),Qa (Qv 49) (Qf 1 false (Qn 48)),Qa (Qv 50) (MOp.bslice 1 [(Qr Qu 0)] 1 [(0,(Qn 49))]),Qa (Qv 51) (MOp.app 3 1 8 (Qn 41) (Qn 50)),Qa (Qv 7) (Qd (Qn 51))]
def Y4j:MC:=.reg true Xcb
def Xcc:List MO:=[Qa (Qv 39) (Qd (Qn 9)),Qa (Qv 40) (Qe Qt Go.BinOp.add (Qn 39) (Qo (Qp (Qq (Qr Qu 1))))),Qa (Qv 9) (Qd (Qn 40))]
def Y4k:MC:=.r0 Xcc
def Y4l:MC:=.seq Y4h (.blk 0 (.loop (.seq (.seq Y4i (.cond (Qn 38) .skip (MC.exit 0))) (.seq (.blk 1 Y4j) Y4k))))
def Xcz:List MO:=[Qa (Qv 52) (Qd (Qn 7)),Qa (Qv 4) (Qd (Qn 52)),Qa (Qv 5) (Qd (Qo (Qp (Qq (Qr Qu 0)))))]
def Y4m:MC:=.r0 Xcz
def Y4n:MC:=.seq (.seq Y4f (.cond (Qn 32) (.seq Y4g Y4l) .skip)) (.seq Y4m .ret)
def Y4o:MC:=.seq Wpv (.seq (.seq Y4d (.cond (Qn 26) (.seq Y4e .ret) .skip)) Y4n)
def Y4p:MC:=.seq (.seq Wps (.cond (Qn 18) (.seq Wpt .ret) .skip)) (.seq Wpu Y4o)
def X38:MC:=.seq Wpr Y4p
theorem W4j:KK QP 47 f47 [2] X38 [(RV.t 4),(RV.t 5)] 53:=by refine⟨func47,?_,?_,?_,?_⟩<;>kernel_rfl
theorem Wpw:Xaa QP 47=true:=by kernel_rfl
theorem Wpx (h:GI QP gp [(RV.t 4),(RV.t 5)] res 53 X38 args):Xak QP gp 47 args res:=W4j.i Wpw h
def Yto:List MO:=[Qa (Qv 2) (MOp.ibox (Qn 0)),Qa (Qv 4) (MOp.alloc [(Qr Qu 0),(Qr Qu 0),(Qr Qu 0),(D.str (ByteArray.mk #[])),(D.sl []),(D.sl []),(Qr Qu 0)]),Qa (Qv 5) (Qd (Qo (Qp (Qq (Qr Qu 0)))))]
def Wpy:MC:=.r0 Yto
def Ytp:List MO:=[Qa (Qv 6) (Qf 2 true (Qn 2)),Qa (Qv 7) (Qd (Qn 1)),Qa (Qv 8) (Qh 78 [(Qn 6),(Qn 7)]),Qa (Qv 9) (MOp.not (Qn 8))]
def Wpz:MC:=.r0 Ytp
def Ytq:List MO:=[Qa (Qv 10) (MOp.build [(Qr Qu 0),(Qr Qu 0),(Qr Qu 0),(D.str (ByteArray.mk #[])),(D.sl []),(D.sl []),(Qr Qu 0)] []),Qa none (Ql 7 (Qn 4) (Qn 10)),Qa (Qv 5) (Qd (Qo (Qp (Qq (Qr Qu 2)))))]
def Wp0:MC:=.r0 Ytq
def Ytr:List MO:=[Qa (Qv 11) (Qg 1 (Qn 2)),Qa (Qv 12) (Qf 1 false (Qn 11)),Qa (Qv 13) (Qd (Qn 1)),Qa (Qv 14) (Qj 6 (Qn 12) (Qn 13)),Qa (Qv 15) (Qf 6 true (Qn 14)),Qa (Qv 16) (Qg 1 (Qn 2)),Qa (Qv 17) (Qf 1 false (Qn 16)),Qa (Qv 18) (Qk Qt (Qn 17)),Qa (Qv 19) (MOp.build [(Qr Qu 0),(Qr Qu 0),(Qr Qu 0),(D.str (ByteArray.mk #[])),(D.sl []),(D.sl []),(Qr Qu 0)] [(0,(6,(Qn 15))),(6,(1,(Qn 18)))]),Qa none (Ql 7 (Qn 4) (Qn 19)),Qa (Qv 5) (Qd (Qo (Qp (Qq (Qr Qu 0)))))]
def Wp1:MC:=.reg true Ytr
def X39:MC:=.seq Wpy (.seq (.seq Wpz (.cond (Qn 9) (.seq Wp0 .ret) .skip)) (.seq Wp1 .ret))
attribute [go_sem] Yto Ytp Ytq Ytr
theorem W4k:KK QP 49 f49 [2] X39 [(RV.cell 4 7 true),(RV.t 5)] 20:=by refine⟨func49,?_,?_,?_,?_⟩<;>kernel_rfl
theorem Wp2:Xaa QP 49=true:=by kernel_rfl
theorem Wp3 (h:GI QP gp [(RV.cell 4 7 true),(RV.t 5)] res 20 X39 args):Xak QP gp 49 args res:=W4k.i Wp2 h
def Yts:List MO:=[Qa (Qv 1) (MOp.ibox (Qn 0)),Qa (Qv 2) (Qd (Qo (Qp A.nil)))]
def Wp4:MC:=.r0 Yts
def Ytt:List MO:=[Qa (Qv 6) (Qg 0 (Qn 1)),Qa (Qv 7) (Qg 0 (Qn 6)),Qa (Qv 8) (Qf 1 false (Qn 7)),Qa (Qv 9) (Qe Qt Go.BinOp.neq (Qn 8) (Qo (Qp (Qq (Qr Qu 2))))),Qa (Qv 10) (Qd (Qn 9)),Qb 10 false (Qv 11),Qa (Qv 11) (Qf 7 true (Qn 1)),Qb 10 false (Qv 12),Qa (Qv 12) (Qh 79 [(Qn 11)]),Qb 10 false (Qv 13),Qa (Qv 13) (MOp.not (Qn 12)),Qa (Qv 14) (Qm (Qn 10) (Qo (Qp (Qq (Qs true)))) (Qn 13))]
def Wp5:MC:=.r0 Ytt
def Ytu:List MO:=[Qa (Qv 2) (Qd (Qo (Qp A.nil)))]
def Wp6:MC:=.r0 Ytu
def Ytv:List MO:=[Qa (Qv 3) (Qd (Qo (Qp A.nil)))]
def Wp7:MC:=.r0 Ytv
def Ytw:List MO:=[Qa (Qv 15) (Qg 0 (Qn 1)),Qa (Qv 16) (Qg 4 (Qn 15)),Qa (Qv 17) (Qf 1 false (Qn 16)),Qa (Qv 18) (Qk Qt (Qn 17)),Qa (Qv 19) (Qd (Qo (Qp (Qq (Qr Qu 0)))))]
def Wp8:MC:=.r0 Ytw
def X4a:List MO:=[Qa (Qv 20) (Qe Qt Go.BinOp.lss (Qn 19) (Qn 18))]
def Y4q:MC:=.r0 X4a
def X4b:List MO:=[Qa (Qv 21) (Qd (Qn 19)),Qa (Qv 22) (Qj 3 (Qn 17) (Qn 19)),Qa (Qv 23) (Qf 3 true (Qn 22)),Qa (Qv 5) (MOp.alloc [(Qr Qu 0),(Qr Qu 0),(D.str (ByteArray.mk #[]))]),Qa (Qv 4) (Qd (Qn 21)),Qa none (Ql 3 (Qn 5) (Qn 23))]
def Y4r:MC:=.r0 X4b
def X4c:List MO:=[Qa (Qv 24) (Qd (Qn 3)),Qa (Qv 25) (Qf 3 true (Qn 5)),Qa (Qv 26) (Qg 0 (Qn 1)),Qa (Qv 27) (Qg 5 (Qn 26)),Qa (Qv 28) (Qf 1 false (Qn 27)),Qa (Qv 29) (Qd (Qn 4)),Qa (Qv 30) (Qj 1 (Qn 28) (Qn 29)),Qa (Qv 31) (Qf 1 false (Qn 30)),Qa (Qv 32) (MOp.build [(Qr Qu 0),(Qr Qu 0),(D.str (ByteArray.mk #[])),(Qr Qu 0)] [(0,(3,(Qn 25))),(3,(1,(Qn 31)))]),Qa (Qv 33) (MOp.bslice 4 [(Qr Qu 0),(Qr Qu 0),(D.str (ByteArray.mk #[])),(Qr Qu 0)] 1 [(0,(Qn 32))]),Qa (Qv 34) (MOp.app 87 4 40 (Qn 24) (Qn 33)),Qa (Qv 3) (Qd (Qn 34))]
def Y4s:MC:=.reg true X4c
def X4d:List MO:=[Qa (Qv 35) (Qe Qt Go.BinOp.add (Qn 19) (Qo (Qp (Qq (Qr Qu 1))))),Qa (Qv 19) (Qd (Qn 35))]
def Y4t:MC:=.r0 X4d
def Y4u:MC:=.seq Y4q (.seq (.cond (Qn 20) .skip (MC.exit 0)) (.seq (.blk 1 (.seq Y4r Y4s)) Y4t))
def X4e:List MO:=[Qa (Qv 36) (Qd (Qn 3)),Qa (Qv 37) (Qh 80 [(Qn 36),(Qo (Qp (Qq (D.fn (Go.Fn.func 81) []))))])]
def Y4v:MC:=.r0 X4e
def X4f:List MO:=[Qa (Qv 38) (Qd (Qn 3)),Qa (Qv 2) (Qd (Qn 38))]
def Y4w:MC:=.r0 X4f
def Y4x:MC:=.seq (.seq Wp8 (.blk 0 (.loop Y4u))) (.seq Y4v (.seq Y4w .ret))
def Y4y:MC:=.seq (.seq Wp5 (.cond (Qn 14) (.seq Wp6 .ret) .skip)) (.seq Wp7 Y4x)
def X4g:MC:=.seq Wp4 Y4y
attribute [go_sem] Yts Ytt Ytu Ytv Ytw X4a X4b X4c X4d X4e X4f
theorem W4l:KK QP 50 f50 [1] X4g [(RV.t 2)] 39:=by refine⟨func50,?_,?_,?_,?_⟩<;>kernel_rfl
theorem Wp9:Xaa QP 50=true:=by kernel_rfl
theorem Wqa (h:GI QP gp [(RV.t 2)] res 39 X4g args):Xak QP gp 50 args res:=W4l.i Wp9 h
def Ytx:List MO:=[Qa (Qv 2) (MOp.ibox (Qn 0)),Qa (Qv 4) (Qd (Qo (Qp A.nil))),Qa (Qv 5) (Qd (Qo (Qp (Qq (Qr Qu 0)))))]
def Wqb:MC:=.r0 Ytx
def Yty:List MO:=[Qa (Qv 9) (Qd (Qn 1)),Qa (Qv 10) (Qe Qt Go.BinOp.lss (Qn 9) (Qo (Qp (Qq (Qr Qu 0))))),Qa (Qv 11) (Qd (Qn 10)),Qb 11 false (Qv 12),Qa (Qv 12) (Qd (Qn 1)),Qb 11 false (Qv 13),Qa (Qv 13) (Qg 1 (Qn 2)),Qb 11 false (Qv 14),Qa (Qv 14) (Qf 1 false (Qn 13)),Qb 11 false (Qv 15),Qa (Qv 15) (Qk Qt (Qn 14)),Qb 11 false (Qv 16),Qa (Qv 16) (Qe Qt Go.BinOp.geq (Qn 12) (Qn 15)),Qa (Qv 17) (Qm (Qn 11) (Qo (Qp (Qq (Qs true)))) (Qn 16))]
def Wqc:MC:=.r0 Yty
def Ytz:List MO:=[Qa (Qv 4) (Qd (Qo (Qp A.nil))),Qa (Qv 5) (Qd (Qo (Qp (Qq (Qr Qu 2)))))]
def Wqd:MC:=.r0 Ytz
def Yt0:List MO:=[Qa (Qv 6) (Qd (Qo (Qp A.nil)))]
def Wqe:MC:=.r0 Yt0
def Yt1:List MO:=[Qa (Qv 18) (Qg 1 (Qn 2)),Qa (Qv 19) (Qf 1 false (Qn 18)),Qa (Qv 20) (Qd (Qn 1)),Qa (Qv 21) (Qj 6 (Qn 19) (Qn 20)),Qa (Qv 22) (Qf 6 true (Qn 21)),Qa (Qv 23) (Qh 76 [(Qn 22)])]
def Wqf:MC:=.r0 Yt1
def X4h:List MO:=[Qa (Qv 24) (Qg 1 (Qn 2)),Qa (Qv 25) (Qf 1 false (Qn 24)),Qa (Qv 26) (Qd (Qn 1)),Qa (Qv 27) (Qj 6 (Qn 25) (Qn 26)),Qa (Qv 28) (Qf 6 true (Qn 27)),Qa (Qv 29) (Qh 77 [(Qn 28)]),Qa (Qv 7) (Qd (Qn 29))]
def Y4z:MC:=.r0 X4h
def X4i:List MO:=[Qa (Qv 8) (Qd (Qo (Qp (Qq (Qr Qu 0)))))]
def Y40:MC:=.r0 X4i
def X4j:List MO:=[Qa (Qv 30) (Qd (Qn 8)),Qa (Qv 31) (Qd (Qn 7)),Qa (Qv 32) (Qk Qt (Qn 31)),Qa (Qv 33) (Qe Qt Go.BinOp.lss (Qn 30) (Qn 32))]
def Y41:MC:=.r0 X4j
def X4k:List MO:=[Qa (Qv 36) (Qd (Qn 6)),Qa (Qv 37) (Qg 1 (Qn 2)),Qa (Qv 38) (Qf 1 false (Qn 37)),Qa (Qv 39) (Qd (Qn 1)),Qa (Qv 40) (Qj 6 (Qn 38) (Qn 39)),Qa (Qv 41) (Qg 4 (Qn 40)),Qa (Qv 42) (Qf 1 false (Qn 41)),Qa (Qv 43) (Qd (Qn 7)),Qa (Qv 44) (Qd (Qn 8)),Qa (Qv 45) (Qj 1 (Qn 43) (Qn 44)),Qa (Qv 46) (Qf 1 false (Qn 45)),Qa (Qv 47) (Qj 3 (Qn 42) (Qn 46)),Qa (Qv 48) (Qf 3 true (Qn 47)),Qa (Qv 49) (MOp.bslice 3 [(Qr Qu 0),(Qr Qu 0),(D.str (ByteArray.mk #[]))] 1 [(0,(Qn 48))]),Qa (Qv 50) (MOp.app 41 3 32 (Qn 36) (Qn 49)),Qa (Qv 6) (Qd (Qn 50))]
def Y42:MC:=.reg true X4k
def X4l:List MO:=[Qa (Qv 34) (Qd (Qn 8)),Qa (Qv 35) (Qe Qt Go.BinOp.add (Qn 34) (Qo (Qp (Qq (Qr Qu 1))))),Qa (Qv 8) (Qd (Qn 35))]
def Y43:MC:=.r0 X4l
def Y44:MC:=.seq Y40 (.blk 0 (.loop (.seq (.seq Y41 (.cond (Qn 33) .skip (MC.exit 0))) (.seq (.blk 1 Y42) Y43))))
def Xeh:List MO:=[Qa (Qv 51) (Qd (Qn 6)),Qa (Qv 4) (Qd (Qn 51)),Qa (Qv 5) (Qd (Qo (Qp (Qq (Qr Qu 0)))))]
def Y45:MC:=.r0 Xeh
def Y46:MC:=.seq (.seq Wqf (.cond (Qn 23) (.seq Y4z Y44) .skip)) (.seq Y45 .ret)
def Y47:MC:=.seq (.seq Wqc (.cond (Qn 17) (.seq Wqd .ret) .skip)) (.seq Wqe Y46)
def X4m:MC:=.seq Wqb Y47
attribute [go_sem] Ytx Yty Ytz Yt0 Yt1 X4h X4i X4j X4k X4l
theorem W4m:KK QP 51 f51 [2] X4m [(RV.t 4),(RV.t 5)] 52:=by refine⟨func51,?_,?_,?_,?_⟩<;>kernel_rfl
theorem Wqg:Xaa QP 51=true:=by kernel_rfl
theorem Wqh (h:GI QP gp [(RV.t 4),(RV.t 5)] res 52 X4m args):Xak QP gp 51 args res:=W4m.i Wqg h
def Yt2:List MO:=[Qa (Qv 4) (Qd (Qo (Qp (Qq (Qs false)))))]
def Wqi:MC:=.r0 Yt2
def Yt3:List MO:=[Qa (Qv 6) (Qd (Qn 0)),Qa (Qv 7) (Qk Qt (Qn 6)),Qa (Qv 8) (Qd (Qn 1)),Qa (Qv 9) (Qk Qt (Qn 8)),Qa (Qv 10) (Qe Qt Go.BinOp.neq (Qn 7) (Qn 9))]
def Wqj:MC:=.r0 Yt3
def Yt4:List MO:=[Qa (Qv 4) (Qd (Qo (Qp (Qq (Qs false)))))]
def Wqk:MC:=.r0 Yt4
def Yt5:List MO:=[Qa (Qv 5) (Qd (Qo (Qp (Qq (Qr Qu 0)))))]
def Wql:MC:=.r0 Yt5
def Yt6:List MO:=[Qa (Qv 11) (Qd (Qn 5)),Qa (Qv 12) (Qd (Qn 0)),Qa (Qv 13) (Qk Qt (Qn 12)),Qa (Qv 14) (Qe Qt Go.BinOp.lss (Qn 11) (Qn 13))]
def Wqm:MC:=.r0 Yt6
def X4n:List MO:=[Qa (Qv 17) (Qd (Qn 0)),Qa (Qv 18) (Qd (Qn 5)),Qa (Qv 19) (Qj 3 (Qn 17) (Qn 18)),Qa (Qv 20) (Qf 3 true (Qn 19)),Qa (Qv 21) (Qd (Qn 1)),Qa (Qv 22) (Qd (Qn 5)),Qa (Qv 23) (Qj 3 (Qn 21) (Qn 22)),Qa (Qv 24) (Qf 3 true (Qn 23)),Qa (Qv 25) (MOp.eqs true [Qt,Qt,Leaf.s] (Qn 20) (Qn 24))]
def Y48:MC:=.reg true X4n
def X4o:List MO:=[Qa (Qv 4) (Qd (Qo (Qp (Qq (Qs false)))))]
def Y49:MC:=.r0 X4o
def X4p:List MO:=[Qa (Qv 15) (Qd (Qn 5)),Qa (Qv 16) (Qe Qt Go.BinOp.add (Qn 15) (Qo (Qp (Qq (Qr Qu 1))))),Qa (Qv 5) (Qd (Qn 16))]
def Y5a:MC:=.r0 X4p
def Y5b:MC:=.seq (.seq Wqm (.cond (Qn 14) .skip (MC.exit 0))) (.seq (.blk 1 (.seq Y48 (.cond (Qn 25) (.seq Y49 .ret) .skip))) Y5a)
def X4q:List MO:=[Qa (Qv 4) (Qd (Qo (Qp (Qq (Qs true)))))]
def Y5c:MC:=.r0 X4q
def Y5d:MC:=.seq (.seq Wqj (.cond (Qn 10) (.seq Wqk .ret) .skip)) (.seq (.seq Wql (.blk 0 (.loop Y5b))) (.seq Y5c .ret))
def X4r:MC:=.seq Wqi Y5d
attribute [go_sem] Yt2 Yt3 Yt4 Yt5 Yt6 X4n X4o X4p X4q
theorem W4n:KK QP 52 f52 [] X4r [(RV.t 4)] 26:=by refine⟨func52,?_,?_,?_,?_⟩<;>kernel_rfl
theorem Wqn:Xaa QP 52=true:=by kernel_rfl
theorem Wqo (h:GI QP gp [(RV.t 4)] res 26 X4r args):Xak QP gp 52 args res:=W4n.i Wqn h
def Yt7:List MO:=[Qa (Qv 2) (MOp.ibox (Qn 0)),Qa (Qv 3) (MOp.ibox (Qn 1)),Qa (Qv 4) (Qd (Qo (Qp (Qq (Qs false)))))]
def Wqp:MC:=.r0 Yt7
def Yt8:List MO:=[Qa (Qv 5) (Qd (Qo (Qp (Qq (D.fn (Go.Fn.func 83) [])))))]
def Wqq:MC:=.r0 Yt8
def Yt9:List MO:=[Qa (Qv 6) (Qg 0 (Qn 2)),Qa (Qv 7) (Qf 1 false (Qn 6)),Qa (Qv 8) (Qg 0 (Qn 3)),Qa (Qv 9) (Qf 1 false (Qn 8)),Qa (Qv 10) (Qe Qt Go.BinOp.eql (Qn 7) (Qn 9)),Qa (Qv 11) (Qd (Qn 10)),Qb 11 true (Qv 12),Qa (Qv 12) (Qg 1 (Qn 2)),Qb 11 true (Qv 13),Qa (Qv 13) (Qf 1 false (Qn 12)),Qb 11 true (Qv 14),Qa (Qv 14) (Qg 1 (Qn 3)),Qb 11 true (Qv 15),Qa (Qv 15) (Qf 1 false (Qn 14)),Qb 11 true (Qv 16),Qa (Qv 16) (Qd (Qn 5)),Qb 11 true (Qv 17),Qa (Qv 17) (Qh 86 [(Qn 13),(Qn 15),(Qn 16)]),Qa (Qv 18) (Qm (Qn 11) (Qn 17) (Qo (Qp (Qq (Qs false))))),Qa (Qv 4) (Qd (Qn 18))]
def Wqr:MC:=.r0 Yt9
def Yua:MC:=.seq Wqp (.seq Wqq (.seq Wqr .ret))
attribute [go_sem] Yt7 Yt8 Yt9
theorem W4o:KK QP 53 f53 [2,3] Yua [(RV.t 4)] 19:=by refine⟨func53,?_,?_,?_,?_⟩<;>kernel_rfl
theorem Wqs:Xaa QP 53=true:=by kernel_rfl
theorem Wqt (h:GI QP gp [(RV.t 4)] res 19 Yua args):Xak QP gp 53 args res:=W4o.i Wqs h
def Xir:List MO:=[Qa (Qv 2) (MOp.ibox (Qn 0)),Qa (Qv 4) (Qd (Qo (Qp A.nil))),Qa (Qv 5) (Qd (Qo (Qp (Qq (Qr Qu 0)))))]
def Wqu:MC:=.r0 Xir
def Xis:List MO:=[Qa (Qv 12) (Qf 2 true (Qn 2)),Qa (Qv 13) (Qd (Qn 1)),Qa (Qv 14) (Qh 49 [(Qn 12),(Qn 13)]),Qa (Qv 11) (Qd (Qn 14)),Qa (Qv 15) (Qi (Qn 11) 0),Qa (Qv 16) (Qi (Qn 11) 1),Qa (Qv 6) (MOp.alloc [(Qr Qu 0),(Qr Qu 0),(Qr Qu 0),(D.str (ByteArray.mk #[])),(D.sl []),(D.sl []),(Qr Qu 0)]),Qa none (Ql 7 (Qn 6) (Qn 15)),Qa (Qv 7) (Qd (Qn 16))]
def Wqv:MC:=.r0 Xis
def Xit:List MO:=[Qa (Qv 8) (Qd (Qo (Qp A.nil)))]
def Wqw:MC:=.r0 Xit
def Xiu:List MO:=[Qa (Qv 17) (Qf 7 true (Qn 6)),Qa (Qv 18) (Qh 50 [(Qn 17)]),Qa (Qv 19) (Qk Qt (Qn 18)),Qa (Qv 20) (Qd (Qo (Qp (Qq (Qr Qu 0)))))]
def Wqx:MC:=.r0 Xiu
def Xhv:List MO:=[Qa (Qv 21) (Qe Qt Go.BinOp.lss (Qn 20) (Qn 19))]
def Wqy:MC:=.r0 Xhv
def Xiv:List MO:=[Qa (Qv 22) (Qj 4 (Qn 18) (Qn 20)),Qa (Qv 23) (Qf 4 true (Qn 22)),Qa (Qv 10) (MOp.alloc [(Qr Qu 0),(Qr Qu 0),(D.str (ByteArray.mk #[])),(Qr Qu 0)]),Qa none (Ql 4 (Qn 10) (Qn 23))]
def Wqz:MC:=.r0 Xiv
def Xiw:List MO:=[Qa (Qv 24) (Qd (Qn 8)),Qa (Qv 25) (Qg 0 (Qn 10)),Qa (Qv 26) (Qf 3 true (Qn 25)),Qa (Qv 27) (MOp.bslice 3 [(Qr Qu 0),(Qr Qu 0),(D.str (ByteArray.mk #[]))] 1 [(0,(Qn 26))]),Qa (Qv 28) (MOp.app 41 3 32 (Qn 24) (Qn 27)),Qa (Qv 8) (Qd (Qn 28))]
def Wq0:MC:=.r0 Xiw
def Xf8:List MO:=[Qa (Qv 29) (Qe Qt Go.BinOp.add (Qn 20) (Qo (Qp (Qq (Qr Qu 1))))),Qa (Qv 20) (Qd (Qn 29))]
def Y5e:MC:=.r0 Xf8
def Y5f:MC:=.seq Wqy (.seq (.cond (Qn 21) .skip (MC.exit 0)) (.seq (.blk 1 (.seq Wqz Wq0)) Y5e))
def Xf9:List MO:=[Qa (Qv 30) (Qd (Qn 8)),Qa (Qv 31) (Qd (Qn 7)),Qa (Qv 4) (Qd (Qn 30)),Qa (Qv 5) (Qd (Qn 31))]
def Y5g:MC:=.r0 Xf9
def Y5h:MC:=.seq Wqw (.seq (.seq Wqx (.blk 0 (.loop Y5f))) (.seq Y5g .ret))
def X4s:MC:=.seq Wqu (.seq Wqv Y5h)
theorem W4p:KK QP 64 f64 [2] X4s [(RV.t 4),(RV.t 5)] 32:=by refine⟨func64,?_,?_,?_,?_⟩<;>kernel_rfl
theorem Wq1:Xaa QP 64=true:=by kernel_rfl
theorem Wq2 (h:GI QP gp [(RV.t 4),(RV.t 5)] res 32 X4s args):Xak QP gp 64 args res:=W4p.i Wq1 h
def Yub:List MO:=[Qa (Qv 1) (MOp.ibox (Qn 0)),Qa (Qv 2) (MOp.alloc [(Qr Qu 0),(Qr Qu 0),(D.str (ByteArray.mk #[]))])]
def Wq3:MC:=.r0 Yub
def Yuc:List MO:=[Qa (Qv 3) (Qg 0 (Qn 1)),Qa (Qv 4) (Qf 1 false (Qn 3)),Qa (Qv 5) (Qg 1 (Qn 1)),Qa (Qv 6) (Qf 1 false (Qn 5)),Qa (Qv 7) (Qg 2 (Qn 1)),Qa (Qv 8) (Qf 1 false (Qn 7)),Qa (Qv 9) (Qh 94 [(Qn 8)]),Qa (Qv 10) (MOp.build [(Qr Qu 0),(Qr Qu 0),(D.str (ByteArray.mk #[]))] [(0,(1,(Qn 4))),(1,(1,(Qn 6))),(2,(1,(Qn 9)))]),Qa none (Ql 3 (Qn 2) (Qn 10))]
def Wq4:MC:=.reg true Yuc
def Yud:MC:=.seq Wq3 (.seq Wq4 .ret)
attribute [go_sem] Yub Yuc
theorem W4q:KK QP 68 f68 [1] Yud [(RV.cell 2 3 true)] 11:=by refine⟨func68,?_,?_,?_,?_⟩<;>kernel_rfl
theorem Wq5:Xaa QP 68=true:=by kernel_rfl
theorem Wq6 (h:GI QP gp [(RV.cell 2 3 true)] res 11 Yud args):Xak QP gp 68 args res:=W4q.i Wq5 h
def Yue:List MO:=[Qa (Qv 2) (Qd (Qo (Qp (Qq (Qr Qu 0))))),Qa (Qv 3) (Qd (Qo (Qp (Qq (Qr Qu 0)))))]
def Wq7:MC:=.r0 Yue
def Yuf:List MO:=[Qa (Qv 4) (MOp.alloc [(Qr Qu 0),(Qr Qu 0)])]
def Wq8:MC:=.r0 Yuf
def Yug:List MO:=[Qa (Qv 5) (Qd (Qn 0)),Qa (Qv 6) (MOp.mkI 156 (Qn 4)),Qa (Qv 7) (Qh 87 [(Qn 5),(Qn 6)])]
def Wq9:MC:=.r0 Yug
def Yuh:List MO:=[Qa (Qv 8) (Qg 0 (Qn 4)),Qa (Qv 9) (Qf 1 false (Qn 8)),Qa (Qv 10) (Qg 1 (Qn 4)),Qa (Qv 11) (Qf 1 false (Qn 10)),Qa (Qv 2) (Qd (Qn 9)),Qa (Qv 3) (Qd (Qn 11))]
def Wra:MC:=.reg true Yuh
def Yui:List MO:=[Qa (Qv 2) (Qd (Qo (Qp (Qq (Qr Qu 0))))),Qa (Qv 3) (Qd (Qo (Qp (Qq (Qr Qu 0)))))]
def Wrb:MC:=.r0 Yui
def Y5i:MC:=.seq Wq8 (.seq (.seq Wq9 (.cond (Qn 7) (.seq Wra .ret) .skip)) (.seq Wrb .ret))
def X4t:MC:=.seq Wq7 Y5i
attribute [go_sem] Yue Yuf Yug Yuh Yui
theorem W4r:KK QP 69 f69 [] X4t [(RV.t 2),(RV.t 3)] 12:=by refine⟨func69,?_,?_,?_,?_⟩<;>kernel_rfl
theorem Wrc:Xaa QP 69=true:=by kernel_rfl
theorem Wrd (h:GI QP gp [(RV.t 2),(RV.t 3)] res 12 X4t args):Xak QP gp 69 args res:=W4r.i Wrc h
def Yuj:List MO:=[Qa (Qv 1) (MOp.ibox (Qn 0)),Qa (Qv 2) (MOp.alloc [D.nilI])]
def Wre:MC:=.r0 Yuj
def Yuk:List MO:=[Qa (Qv 6) (Qg 1 (Qn 1)),Qa (Qv 7) (Qf 1 false (Qn 6)),Qa (Qv 8) (Qk Qt (Qn 7)),Qa (Qv 9) (Qe Qt Go.BinOp.gtr (Qn 8) (Qo (Qp (Qq (Qr Qu 200))))),Qa (Qv 5) (Qd (Qn 9))]
def Wrf:MC:=.r0 Yuk
def Yul:List MO:=[Qa (Qv 10) (MOp.build [(Qr Qu 0),(Qr Qu 0)] [(0,(1,(Qo (Qp (Qq (Qr Qu 0)))))),(1,(1,(Qo (Qp (Qq (Qr Qu 71))))))]),Qa (Qv 11) (MOp.mkI 155 (Qn 10)),Qa none (Ql 1 (Qn 2) (Qn 11))]
def Wrg:MC:=.r0 Yul
def Yum:List MO:=[Qa (Qv 13) (Qf 2 true (Qn 1)),Qa (Qv 14) (Qg 0 (Qn 1)),Qa (Qv 15) (Qf 1 false (Qn 14)),Qa (Qv 16) (Qh 78 [(Qn 13),(Qn 15)]),Qa (Qv 17) (MOp.not (Qn 16)),Qa (Qv 12) (Qd (Qn 17))]
def Wrh:MC:=.r0 Yum
def Yun:List MO:=[Qa (Qv 18) (MOp.build [(Qr Qu 0),(Qr Qu 0)] [(0,(1,(Qo (Qp (Qq (Qr Qu (-1))))))),(1,(1,(Qo (Qp (Qq (Qr Qu 70))))))]),Qa (Qv 19) (MOp.mkI 155 (Qn 18)),Qa none (Ql 1 (Qn 2) (Qn 19))]
def Wri:MC:=.r0 Yun
def Y5j:MC:=.seq Wrf (.cond (Qn 5) (.seq Wrg .ret) (.seq Wrh (.cond (Qn 12) (.seq Wri .ret) .skip)))
def X4u:List MO:=[Qa (Qv 20) (Qf 2 true (Qn 1)),Qa (Qv 21) (Qh 95 [(Qn 20)])]
def Y5k:MC:=.r0 X4u
def X4v:List MO:=[Qa (Qv 3) (Qd (Qn 22))]
def Y5l:MC:=.r0 X4v
def X4w:List MO:=[Qa (Qv 4) (MOp.alloc [(Qr Qu 0),(Qr Qu 0),(Qr Qu 0),(D.str (ByteArray.mk #[])),(D.sl []),(D.sl []),(Qr Qu 0)]),Qa none (Ql 7 (Qn 4) (Qn 23))]
def Y5m:MC:=.r0 X4w
def X4x:List MO:=[Qa (Qv 24) (Qf 7 true (Qn 4)),Qa (Qv 25) (Qh 96 [(Qn 24)]),Qa (Qv 26) (MOp.not (Qn 25))]
def Y5n:MC:=.r0 X4x
def X4y:List MO:=[Qa (Qv 27) (Qd (Qn 3)),Qa (Qv 28) (MOp.build [(Qr Qu 0),(Qr Qu 0)] [(0,(1,(Qn 27))),(1,(1,(Qo (Qp (Qq (Qr Qu 70))))))]),Qa (Qv 29) (MOp.mkI 155 (Qn 28)),Qa none (Ql 1 (Qn 2) (Qn 29))]
def Y5o:MC:=.r0 X4y
def Y5p:MC:=.rf (Qn 21) [22,23] (.seq Y5l Y5m) (.blk 2 (.seq Y5n (.cond (Qn 26) (.seq Y5o .ret) .skip)))
def X4z:List MO:=[Qa none (Ql 1 (Qn 2) (Qo (Qp (Qq D.nilI))))]
def Y5q:MC:=.r0 X4z
def Y5r:MC:=.seq (.blk 0 Y5j) (.seq (.seq Y5k (.blk 1 Y5p)) (.seq Y5q .ret))
def X40:MC:=.seq Wre Y5r
attribute [go_sem] Yuj Yuk Yul Yum Yun X4u X4v X4w X4x X4y X4z
theorem W4s:KK QP 70 f70 [1] X40 [(RV.cell 2 1 false)] 30:=by refine⟨func70,?_,?_,?_,?_⟩<;>kernel_rfl
theorem Wrj:Xaa QP 70=true:=by kernel_rfl
theorem Wrk (h:GI QP gp [(RV.cell 2 1 false)] res 30 X40 args):Xak QP gp 70 args res:=W4s.i Wrj h
def Yuo:List MO:=[Qa (Qv 2) (MOp.ibox (Qn 0)),Qa (Qv 4) (Qd (Qo (Qp (Qq (Qs false)))))]
def Wrl:MC:=.r0 Yuo
def Yup:List MO:=[Qa (Qv 5) (Qd (Qo (Qp (Qq (Qr Qu 0)))))]
def Wrm:MC:=.r0 Yup
def Yuq:List MO:=[Qa (Qv 8) (Qd (Qn 5)),Qa (Qv 9) (Qg 5 (Qn 2)),Qa (Qv 10) (Qf 1 false (Qn 9)),Qa (Qv 11) (Qk Qt (Qn 10)),Qa (Qv 12) (Qe Qt Go.BinOp.lss (Qn 8) (Qn 11))]
def Wrn:MC:=.r0 Yuq
def Yur:List MO:=[Qa (Qv 15) (Qg 5 (Qn 2)),Qa (Qv 16) (Qf 1 false (Qn 15)),Qa (Qv 17) (Qd (Qn 5)),Qa (Qv 18) (Qj 1 (Qn 16) (Qn 17)),Qa (Qv 19) (Qf 1 false (Qn 18)),Qa (Qv 20) (Qe Qt Go.BinOp.lss (Qn 19) (Qo (Qp (Qq (Qr Qu 0))))),Qa (Qv 21) (Qd (Qn 20)),Qb 21 false (Qv 22),Qa (Qv 22) (Qg 5 (Qn 2)),Qb 21 false (Qv 23),Qa (Qv 23) (Qf 1 false (Qn 22)),Qb 21 false (Qv 24),Qa (Qv 24) (Qd (Qn 5)),Qb 21 false (Qv 25),Qa (Qv 25) (Qj 1 (Qn 23) (Qn 24)),Qb 21 false (Qv 26),Qa (Qv 26) (Qf 1 false (Qn 25)),Qb 21 false (Qv 27),Qa (Qv 27) (Qd (Qn 1)),Qb 21 false (Qv 28),Qa (Qv 28) (Qe Qt Go.BinOp.geq (Qn 26) (Qn 27)),Qa (Qv 29) (Qm (Qn 21) (Qo (Qp (Qq (Qs true)))) (Qn 28))]
def Wro:MC:=.r0 Yur
def Yus:List MO:=[Qa (Qv 4) (Qd (Qo (Qp (Qq (Qs false)))))]
def Wrp:MC:=.r0 Yus
def X41:List MO:=[Qa (Qv 13) (Qd (Qn 5)),Qa (Qv 14) (Qe Qt Go.BinOp.add (Qn 13) (Qo (Qp (Qq (Qr Qu 1))))),Qa (Qv 5) (Qd (Qn 14))]
def Y5s:MC:=.r0 X41
def Y5t:MC:=.seq (.seq Wrn (.cond (Qn 12) .skip (MC.exit 0))) (.seq (.blk 1 (.seq Wro (.cond (Qn 29) (.seq Wrp .ret) .skip))) Y5s)
def X42:List MO:=[Qa (Qv 6) (Qd (Qo (Qp (Qq (Qr Qu 0)))))]
def Y5u:MC:=.r0 X42
def X43:List MO:=[Qa (Qv 30) (Qd (Qn 6)),Qa (Qv 31) (Qg 4 (Qn 2)),Qa (Qv 32) (Qf 1 false (Qn 31)),Qa (Qv 33) (Qk Qt (Qn 32)),Qa (Qv 34) (Qe Qt Go.BinOp.lss (Qn 30) (Qn 33))]
def Y5v:MC:=.r0 X43
def X44:List MO:=[Qa (Qv 37) (Qg 4 (Qn 2)),Qa (Qv 38) (Qf 1 false (Qn 37)),Qa (Qv 39) (Qd (Qn 6)),Qa (Qv 40) (Qj 3 (Qn 38) (Qn 39)),Qa (Qv 41) (Qf 3 true (Qn 40)),Qa (Qv 42) (Qh 98 [(Qn 41)]),Qa (Qv 43) (MOp.not (Qn 42))]
def Y5w:MC:=.r0 X44
def X45:List MO:=[Qa (Qv 4) (Qd (Qo (Qp (Qq (Qs false)))))]
def Y5x:MC:=.r0 X45
def X46:List MO:=[Qa (Qv 35) (Qd (Qn 6)),Qa (Qv 36) (Qe Qt Go.BinOp.add (Qn 35) (Qo (Qp (Qq (Qr Qu 1))))),Qa (Qv 6) (Qd (Qn 36))]
def Y5y:MC:=.r0 X46
def Y5z:MC:=.seq (.seq Y5v (.cond (Qn 34) .skip (MC.exit 2))) (.seq (.blk 3 (.seq Y5w (.cond (Qn 43) (.seq Y5x .ret) .skip))) Y5y)
def X47:List MO:=[Qa (Qv 44) (Qg 1 (Qn 2)),Qa (Qv 45) (Qf 3 true (Qn 44)),Qa (Qv 46) (MOp.build [(Qr Qu 0),(Qr Qu 0),(D.str (ByteArray.mk #[]))] []),Qa (Qv 47) (MOp.eqs false [Qt,Qt,Leaf.s] (Qn 45) (Qn 46)),Qa (Qv 7) (Qd (Qn 47))]
def Y50:MC:=.r0 X47
def X48:List MO:=[Qa (Qv 48) (Qg 0 (Qn 2)),Qa (Qv 49) (Qf 1 false (Qn 48))]
def Y51:MC:=.r0 X48
def X49:List MO:=[Qa (Qv 51) (Qe Qt Go.BinOp.eql (Qn 49) (Qo (Qp (Qq (Qr Qu 0))))),Qa (Qv 50) (Qd (Qn 51))]
def Y52:MC:=.r0 X49
def X5a:List MO:=[Qa (Qv 52) (Qg 1 (Qn 2)),Qa (Qv 53) (Qf 3 true (Qn 52)),Qa (Qv 54) (Qh 98 [(Qn 53)]),Qa (Qv 55) (Qd (Qn 54)),Qb 55 true (Qv 56),Qa (Qv 56) (Qg 4 (Qn 2)),Qb 55 true (Qv 57),Qa (Qv 57) (Qf 1 false (Qn 56)),Qb 55 true (Qv 58),Qa (Qv 58) (Qk Qt (Qn 57)),Qb 55 true (Qv 59),Qa (Qv 59) (Qe Qt Go.BinOp.eql (Qn 58) (Qo (Qp (Qq (Qr Qu 0))))),Qa (Qv 60) (Qm (Qn 55) (Qn 59) (Qo (Qp (Qq (Qs false))))),Qa (Qv 61) (Qd (Qn 60)),Qb 61 true (Qv 62),Qa (Qv 62) (Qg 5 (Qn 2)),Qb 61 true (Qv 63),Qa (Qv 63) (Qf 1 false (Qn 62)),Qb 61 true (Qv 64),Qa (Qv 64) (Qk Qt (Qn 63)),Qb 61 true (Qv 65),Qa (Qv 65) (Qe Qt Go.BinOp.eql (Qn 64) (Qo (Qp (Qq (Qr Qu 0))))),Qa (Qv 66) (Qm (Qn 61) (Qn 65) (Qo (Qp (Qq (Qs false))))),Qa (Qv 4) (Qd (Qn 66))]
def Y53:MC:=.r0 X5a
def X5b:List MO:=[Qa (Qv 68) (Qe Qt Go.BinOp.eql (Qn 49) (Qo (Qp (Qq (Qr Qu 1))))),Qa (Qv 67) (Qd (Qn 68))]
def Y54:MC:=.r0 X5b
def X5c:List MO:=[Qa (Qv 69) (Qd (Qn 7)),Qa (Qv 70) (Qd (Qn 69)),Qb 70 true (Qv 71),Qa (Qv 71) (Qg 4 (Qn 2)),Qb 70 true (Qv 72),Qa (Qv 72) (Qf 1 false (Qn 71)),Qb 70 true (Qv 73),Qa (Qv 73) (Qk Qt (Qn 72)),Qb 70 true (Qv 74),Qa (Qv 74) (Qe Qt Go.BinOp.eql (Qn 73) (Qo (Qp (Qq (Qr Qu 0))))),Qa (Qv 75) (Qm (Qn 70) (Qn 74) (Qo (Qp (Qq (Qs false))))),Qa (Qv 4) (Qd (Qn 75))]
def Y55:MC:=.r0 X5c
def X5d:List MO:=[Qa (Qv 77) (Qe Qt Go.BinOp.eql (Qn 49) (Qo (Qp (Qq (Qr Qu 2))))),Qa (Qv 76) (Qd (Qn 77))]
def Y56:MC:=.r0 X5d
def X5e:List MO:=[Qa (Qv 78) (Qd (Qn 7)),Qa (Qv 79) (Qd (Qn 78)),Qb 79 true (Qv 80),Qa (Qv 80) (Qg 4 (Qn 2)),Qb 79 true (Qv 81),Qa (Qv 81) (Qf 1 false (Qn 80)),Qb 79 true (Qv 82),Qa (Qv 82) (Qk Qt (Qn 81)),Qb 79 true (Qv 83),Qa (Qv 83) (Qg 5 (Qn 2)),Qb 79 true (Qv 84),Qa (Qv 84) (Qf 1 false (Qn 83)),Qb 79 true (Qv 85),Qa (Qv 85) (Qk Qt (Qn 84)),Qb 79 true (Qv 86),Qa (Qv 86) (Qe Qt Go.BinOp.eql (Qn 82) (Qn 85)),Qa (Qv 87) (Qm (Qn 79) (Qn 86) (Qo (Qp (Qq (Qs false))))),Qa (Qv 88) (Qd (Qn 87)),Qb 88 true (Qv 89),Qa (Qv 89) (Qg 4 (Qn 2)),Qb 88 true (Qv 90),Qa (Qv 90) (Qf 1 false (Qn 89)),Qb 88 true (Qv 91),Qa (Qv 91) (Qh 99 [(Qn 90)]),Qb 88 true (Qv 92),Qa (Qv 92) (MOp.not (Qn 91)),Qa (Qv 93) (Qm (Qn 88) (Qn 92) (Qo (Qp (Qq (Qs false))))),Qa (Qv 4) (Qd (Qn 93))]
def Y57:MC:=.r0 X5e
def Y58:MC:=.seq Y54 (.cond (Qn 67) (.seq Y55 .ret) (.seq Y56 (.cond (Qn 76) (.seq Y57 .ret) .skip)))
def Y59:MC:=.seq Y51 (.blk 4 (.seq Y52 (.cond (Qn 50) (.seq Y53 .ret) Y58)))
def X5f:List MO:=[Qa (Qv 4) (Qd (Qo (Qp (Qq (Qs false)))))]
def Y6a:MC:=.r0 X5f
def Y6b:MC:=.seq (.seq Y5u (.blk 2 (.loop Y5z))) (.seq Y50 (.seq Y59 (.seq Y6a .ret)))
def X5g:MC:=.seq Wrl (.seq (.seq Wrm (.blk 0 (.loop Y5t))) Y6b)
attribute [go_sem] Yuo Yup Yuq Yur Yus X41 X42 X43 X44 X45 X46 X47 X48 X49 X5a X5b X5c X5d X5e X5f
theorem W4t:KK QP 72 f72 [2] X5g [(RV.t 4)] 94:=by refine⟨func72,?_,?_,?_,?_⟩<;>kernel_rfl
theorem Wrq:Xaa QP 72=true:=by kernel_rfl
theorem Wrr (h:GI QP gp [(RV.t 4)] res 94 X5g args):Xak QP gp 72 args res:=W4t.i Wrq h
def Yut:List MO:=[Qa (Qv 1) (MOp.ibox (Qn 0)),Qa (Qv 2) (Qd (Qo (Qp (Qq (Qs false)))))]
def Wrs:MC:=.r0 Yut
def Yuu:List MO:=[Qa (Qv 3) (Qg 0 (Qn 1)),Qa (Qv 4) (Qf 1 false (Qn 3)),Qa (Qv 5) (Qe Qt Go.BinOp.eql (Qn 4) (Qo (Qp (Qq (Qr Qu 2))))),Qa (Qv 6) (Qd (Qn 5)),Qb 6 true (Qv 7),Qa (Qv 7) (Qg 4 (Qn 1)),Qb 6 true (Qv 8),Qa (Qv 8) (Qf 1 false (Qn 7)),Qb 6 true (Qv 9),Qa (Qv 9) (Qk Qt (Qn 8)),Qb 6 true (Qv 10),Qa (Qv 10) (Qg 5 (Qn 1)),Qb 6 true (Qv 11),Qa (Qv 11) (Qf 1 false (Qn 10)),Qb 6 true (Qv 12),Qa (Qv 12) (Qk Qt (Qn 11)),Qb 6 true (Qv 13),Qa (Qv 13) (Qe Qt Go.BinOp.eql (Qn 9) (Qn 12)),Qa (Qv 14) (Qm (Qn 6) (Qn 13) (Qo (Qp (Qq (Qs false))))),Qa (Qv 2) (Qd (Qn 14))]
def Wrt:MC:=.r0 Yuu
def Yuv:MC:=.seq Wrs (.seq Wrt .ret)
attribute [go_sem] Yut Yuu
theorem W4u:KK QP 76 f76 [1] Yuv [(RV.t 2)] 15:=by refine⟨func76,?_,?_,?_,?_⟩<;>kernel_rfl
theorem Wru:Xaa QP 76=true:=by kernel_rfl
theorem Wrv (h:GI QP gp [(RV.t 2)] res 15 Yuv args):Xak QP gp 76 args res:=W4u.i Wru h
def Yuw:List MO:=[Qa (Qv 1) (MOp.ibox (Qn 0)),Qa (Qv 2) (Qd (Qo (Qp A.nil)))]
def Wrw:MC:=.r0 Yuw
def Yux:List MO:=[Qa (Qv 3) (Qd (Qo (Qp A.nil)))]
def Wrx:MC:=.r0 Yux
def Yuy:List MO:=[Qa (Qv 4) (Qd (Qo (Qp (Qq (Qr Qu 0)))))]
def Wry:MC:=.r0 Yuy
def Yuz:List MO:=[Qa (Qv 8) (Qd (Qn 4)),Qa (Qv 9) (Qg 4 (Qn 1)),Qa (Qv 10) (Qf 1 false (Qn 9)),Qa (Qv 11) (Qk Qt (Qn 10)),Qa (Qv 12) (Qe Qt Go.BinOp.lss (Qn 8) (Qn 11))]
def Wrz:MC:=.r0 Yuz
def Yu0:List MO:=[Qa (Qv 5) (Qd (Qo (Qp A.nil)))]
def Wr0:MC:=.r0 Yu0
def Yu1:List MO:=[Qa (Qv 6) (Qd (Qo (Qp (Qq (Qs false)))))]
def Wr1:MC:=.r0 Yu1
def X5h:List MO:=[Qa (Qv 7) (Qd (Qo (Qp (Qq (Qr Qu 0)))))]
def Y6c:MC:=.r0 X5h
def X5i:List MO:=[Qa (Qv 15) (Qd (Qn 7)),Qa (Qv 16) (Qd (Qn 3)),Qa (Qv 17) (Qk Qt (Qn 16)),Qa (Qv 18) (Qe Qt Go.BinOp.lss (Qn 15) (Qn 17))]
def Y6d:MC:=.r0 X5i
def X5j:List MO:=[Qa (Qv 21) (Qd (Qn 6)),Qa (Qv 22) (MOp.not (Qn 21)),Qa (Qv 23) (Qd (Qn 22)),Qb 23 true (Qv 24),Qa (Qv 24) (Qg 4 (Qn 1)),Qb 23 true (Qv 25),Qa (Qv 25) (Qf 1 false (Qn 24)),Qb 23 true (Qv 26),Qa (Qv 26) (Qd (Qn 4)),Qb 23 true (Qv 27),Qa (Qv 27) (Qj 3 (Qn 25) (Qn 26)),Qb 23 true (Qv 28),Qa (Qv 28) (Qf 3 true (Qn 27)),Qb 23 true (Qv 29),Qa (Qv 29) (Qg 4 (Qn 1)),Qb 23 true (Qv 30),Qa (Qv 30) (Qf 1 false (Qn 29)),Qb 23 true (Qv 31),Qa (Qv 31) (Qd (Qn 3)),Qb 23 true (Qv 32),Qa (Qv 32) (Qd (Qn 7)),Qb 23 true (Qv 33),Qa (Qv 33) (Qj 1 (Qn 31) (Qn 32)),Qb 23 true (Qv 34),Qa (Qv 34) (Qf 1 false (Qn 33)),Qb 23 true (Qv 35),Qa (Qv 35) (Qj 3 (Qn 30) (Qn 34)),Qb 23 true (Qv 36),Qa (Qv 36) (Qf 3 true (Qn 35)),Qb 23 true (Qv 37),Qc (Qv 37) (Qh 104 [(Qn 28),(Qn 36)]),Qb 23 true (Qv 38),Qa (Qv 38) (Qe Qt Go.BinOp.lss (Qn 37) (Qo (Qp (Qq (Qr Qu 0))))),Qa (Qv 39) (Qm (Qn 23) (Qn 38) (Qo (Qp (Qq (Qs false)))))]
def Y6e:MC:=.reg true X5j
def X5k:List MO:=[Qa (Qv 40) (Qd (Qn 5)),Qa (Qv 41) (Qd (Qn 4)),Qa (Qv 42) (MOp.bslice 1 [(Qr Qu 0)] 1 [(0,(Qn 41))]),Qa (Qv 43) (MOp.app 3 1 8 (Qn 40) (Qn 42)),Qa (Qv 5) (Qd (Qn 43))]
def Y6f:MC:=.r0 X5k
def X5l:List MO:=[Qa (Qv 6) (Qd (Qo (Qp (Qq (Qs true)))))]
def Y6g:MC:=.r0 X5l
def X5m:List MO:=[Qa (Qv 44) (Qd (Qn 5)),Qa (Qv 45) (Qd (Qn 3)),Qa (Qv 46) (Qd (Qn 7)),Qa (Qv 47) (Qj 1 (Qn 45) (Qn 46)),Qa (Qv 48) (Qf 1 false (Qn 47)),Qa (Qv 49) (MOp.bslice 1 [(Qr Qu 0)] 1 [(0,(Qn 48))]),Qa (Qv 50) (MOp.app 3 1 8 (Qn 44) (Qn 49)),Qa (Qv 5) (Qd (Qn 50))]
def Y6h:MC:=.r0 X5m
def Y6i:MC:=.seq (.seq Y6e (.cond (Qn 39) (.seq Y6f Y6g) .skip)) Y6h
def X5n:List MO:=[Qa (Qv 19) (Qd (Qn 7)),Qa (Qv 20) (Qe Qt Go.BinOp.add (Qn 19) (Qo (Qp (Qq (Qr Qu 1))))),Qa (Qv 7) (Qd (Qn 20))]
def Y6j:MC:=.r0 X5n
def Y6k:MC:=.seq Y6c (.blk 2 (.loop (.seq (.seq Y6d (.cond (Qn 18) .skip (MC.exit 2))) (.seq (.blk 3 Y6i) Y6j))))
def X5o:List MO:=[Qa (Qv 51) (Qd (Qn 6)),Qa (Qv 52) (MOp.not (Qn 51))]
def Y6l:MC:=.r0 X5o
def X5p:List MO:=[Qa (Qv 53) (Qd (Qn 5)),Qa (Qv 54) (Qd (Qn 4)),Qa (Qv 55) (MOp.bslice 1 [(Qr Qu 0)] 1 [(0,(Qn 54))]),Qa (Qv 56) (MOp.app 3 1 8 (Qn 53) (Qn 55)),Qa (Qv 5) (Qd (Qn 56))]
def Y6m:MC:=.r0 X5p
def X5q:List MO:=[Qa (Qv 57) (Qd (Qn 5)),Qa (Qv 3) (Qd (Qn 57))]
def Y6n:MC:=.r0 X5q
def Y6o:MC:=.seq Y6k (.seq (.seq Y6l (.cond (Qn 52) Y6m .skip)) Y6n)
def X5r:List MO:=[Qa (Qv 13) (Qd (Qn 4)),Qa (Qv 14) (Qe Qt Go.BinOp.add (Qn 13) (Qo (Qp (Qq (Qr Qu 1))))),Qa (Qv 4) (Qd (Qn 14))]
def Y6p:MC:=.r0 X5r
def Y6q:MC:=.seq (.blk 1 (.seq Wr0 (.seq Wr1 Y6o))) Y6p
def X5s:List MO:=[Qa (Qv 58) (Qd (Qn 3)),Qa (Qv 2) (Qd (Qn 58))]
def Y6r:MC:=.r0 X5s
def Y6s:MC:=.seq (.seq Wry (.blk 0 (.loop (.seq (.seq Wrz (.cond (Qn 12) .skip (MC.exit 0))) Y6q)))) (.seq Y6r .ret)
def X5t:MC:=.seq Wrw (.seq Wrx Y6s)
attribute [go_sem] Yuw Yux Yuy Yuz Yu0 Yu1 X5h X5i X5j X5k X5l X5m X5n X5o X5p X5q X5r X5s
theorem W4v:KK QP 77 f77 [1] X5t [(RV.t 2)] 59:=by refine⟨func77,?_,?_,?_,?_⟩<;>kernel_rfl
theorem Wr2:Xaa QP 77=true:=by kernel_rfl
theorem Wr3 (h:GI QP gp [(RV.t 2)] res 59 X5t args):Xak QP gp 77 args res:=W4v.i Wr2 h
def Yu2:List MO:=[Qa (Qv 2) (MOp.ibox (Qn 0)),Qa (Qv 4) (Qd (Qo (Qp (Qq (Qs false)))))]
def Wr4:MC:=.r0 Yu2
def Yu3:List MO:=[Qa (Qv 5) (Qd (Qn 1)),Qa (Qv 6) (Qe Qt Go.BinOp.geq (Qn 5) (Qo (Qp (Qq (Qr Qu 0))))),Qa (Qv 7) (Qd (Qn 6)),Qb 7 true (Qv 8),Qa (Qv 8) (Qd (Qn 1)),Qb 7 true (Qv 9),Qa (Qv 9) (Qg 1 (Qn 2)),Qb 7 true (Qv 10),Qa (Qv 10) (Qf 1 false (Qn 9)),Qb 7 true (Qv 11),Qa (Qv 11) (Qk Qt (Qn 10)),Qb 7 true (Qv 12),Qa (Qv 12) (Qe Qt Go.BinOp.lss (Qn 8) (Qn 11)),Qa (Qv 13) (Qm (Qn 7) (Qn 12) (Qo (Qp (Qq (Qs false))))),Qa (Qv 4) (Qd (Qn 13))]
def Wr5:MC:=.r0 Yu3
def Yu4:MC:=.seq Wr4 (.seq Wr5 .ret)
attribute [go_sem] Yu2 Yu3
theorem W4w:KK QP 78 f78 [2] Yu4 [(RV.t 4)] 14:=by refine⟨func78,?_,?_,?_,?_⟩<;>kernel_rfl
theorem Wr6:Xaa QP 78=true:=by kernel_rfl
theorem Wr7 (h:GI QP gp [(RV.t 4)] res 14 Yu4 args):Xak QP gp 78 args res:=W4w.i Wr6 h
def Yu5:List MO:=[Qa (Qv 1) (MOp.ibox (Qn 0)),Qa (Qv 2) (Qd (Qo (Qp (Qq (Qs false)))))]
def Wr8:MC:=.r0 Yu5
def Yu6:List MO:=[Qa (Qv 3) (Qg 0 (Qn 1)),Qa (Qv 4) (Qg 4 (Qn 3)),Qa (Qv 5) (Qf 1 false (Qn 4)),Qa (Qv 6) (Qk Qt (Qn 5)),Qa (Qv 7) (Qg 0 (Qn 1)),Qa (Qv 8) (Qg 5 (Qn 7)),Qa (Qv 9) (Qf 1 false (Qn 8)),Qa (Qv 10) (Qk Qt (Qn 9)),Qa (Qv 11) (Qe Qt Go.BinOp.eql (Qn 6) (Qn 10)),Qa (Qv 2) (Qd (Qn 11))]
def Wr9:MC:=.r0 Yu6
def Yu7:MC:=.seq Wr8 (.seq Wr9 .ret)
attribute [go_sem] Yu5 Yu6
theorem W4x:KK QP 79 f79 [1] Yu7 [(RV.t 2)] 12:=by refine⟨func79,?_,?_,?_,?_⟩<;>kernel_rfl
theorem Wsa:Xaa QP 79=true:=by kernel_rfl
theorem Wsb (h:GI QP gp [(RV.t 2)] res 12 Yu7 args):Xak QP gp 79 args res:=W4x.i Wsa h
def Yu8:List MO:=[Qa (Qv 4) (Qd (Qn 0)),Qa (Qv 5) (Qd (Qn 0)),Qa (Qv 6) (Qk Qt (Qn 5)),Qa (Qv 7) (Qd (Qn 1)),Qa (Qv 8) (Qh 105 [(Qn 4),(Qn 6),(Qn 7)])]
def Yu9:MC:=.r0 Yu8
attribute [go_sem] Yu8
theorem W4y:KK QP 80 f80 [] Yu9 [] 9:=by refine⟨func80,?_,?_,?_,?_⟩<;>kernel_rfl
theorem Wsc:Xaa QP 80=true:=by kernel_rfl
theorem Y6t (h:GT QP gp [] pre R 9 Yu9 args):Tri QP gp 80 args pre R:=W4y.t h
def Yva:List MO:=[Qa (Qv 2) (MOp.ibox (Qn 0)),Qa (Qv 3) (MOp.ibox (Qn 1)),Qa (Qv 4) (Qd (Qo (Qp (Qq (Qr Qu 0)))))]
def Wsd:MC:=.r0 Yva
def Yvb:List MO:=[Qa (Qv 5) (Qg 0 (Qn 2)),Qa (Qv 6) (Qf 3 true (Qn 5)),Qa (Qv 7) (Qg 0 (Qn 3)),Qa (Qv 8) (Qf 3 true (Qn 7)),Qa (Qv 9) (Qh 82 [(Qn 6),(Qn 8)]),Qa (Qv 4) (Qd (Qn 9))]
def Wse:MC:=.r0 Yvb
def Yvc:MC:=.seq Wsd (.seq Wse .ret)
attribute [go_sem] Yva Yvb
theorem W4z:KK QP 81 f81 [2,3] Yvc [(RV.t 4)] 10:=by refine⟨func81,?_,?_,?_,?_⟩<;>kernel_rfl
theorem Wsf:Xaa QP 81=true:=by kernel_rfl
theorem Wsg (h:GI QP gp [(RV.t 4)] res 10 Yvc args):Xak QP gp 81 args res:=W4z.i Wsf h
def Yvd:List MO:=[Qa (Qv 2) (MOp.ibox (Qn 0)),Qa (Qv 3) (MOp.ibox (Qn 1)),Qa (Qv 4) (Qd (Qo (Qp (Qq (Qr Qu 0)))))]
def Wsh:MC:=.r0 Yvd
def Yve:List MO:=[Qa (Qv 5) (Qf 3 true (Qn 2)),Qa (Qv 6) (Qf 3 true (Qn 3)),Qa (Qv 7) (MOp.eqs false [Qt,Qt,Leaf.s] (Qn 5) (Qn 6))]
def Wsi:MC:=.r0 Yve
def Yvf:List MO:=[Qa (Qv 4) (Qd (Qo (Qp (Qq (Qr Qu 0)))))]
def Wsj:MC:=.r0 Yvf
def Yvg:List MO:=[Qa (Qv 8) (Qg 0 (Qn 2)),Qa (Qv 9) (Qf 1 false (Qn 8)),Qa (Qv 10) (Qg 0 (Qn 3)),Qa (Qv 11) (Qf 1 false (Qn 10)),Qa (Qv 12) (Qh 107 [(Qn 9),(Qn 11)]),Qa (Qv 13) (Qg 1 (Qn 2)),Qa (Qv 14) (Qf 1 false (Qn 13)),Qa (Qv 15) (Qg 1 (Qn 3)),Qa (Qv 16) (Qf 1 false (Qn 15)),Qa (Qv 17) (Qh 107 [(Qn 14),(Qn 16)]),Qa (Qv 18) (Qg 2 (Qn 2)),Qa (Qv 19) (Qf 1 false (Qn 18)),Qa (Qv 20) (Qg 2 (Qn 3)),Qa (Qv 21) (Qf 1 false (Qn 20)),Qc (Qv 22) (Qh 108 [(Qn 19),(Qn 21)]),Qa (Qv 23) (MOp.bslice 1 [(Qr Qu 0)] 3 [(0,(Qn 12)),(1,(Qn 17)),(2,(Qn 22))]),Qc (Qv 24) (Qh 106 [(Qn 23)]),Qa (Qv 4) (Qd (Qn 24))]
def Wsk:MC:=.reg true Yvg
def X5u:MC:=.seq Wsh (.seq (.seq Wsi (.cond (Qn 7) (.seq Wsj .ret) .skip)) (.seq Wsk .ret))
attribute [go_sem] Yvd Yve Yvf Yvg
theorem W40:KK QP 82 f82 [2,3] X5u [(RV.t 4)] 25:=by refine⟨func82,?_,?_,?_,?_⟩<;>kernel_rfl
theorem Wsl:Xaa QP 82=true:=by kernel_rfl
theorem Wsm (h:GI QP gp [(RV.t 4)] res 25 X5u args):Xak QP gp 82 args res:=W40.i Wsl h
def Yvh:List MO:=[Qa (Qv 2) (MOp.ibox (Qn 0)),Qa (Qv 3) (MOp.ibox (Qn 1)),Qa (Qv 4) (Qd (Qo (Qp (Qq (Qs false)))))]
def Wsn:MC:=.r0 Yvh
def Yvi:List MO:=[Qa (Qv 5) (Qg 0 (Qn 2)),Qa (Qv 6) (Qf 1 false (Qn 5)),Qa (Qv 7) (Qg 0 (Qn 3)),Qa (Qv 8) (Qf 1 false (Qn 7)),Qa (Qv 9) (Qe Qt Go.BinOp.eql (Qn 6) (Qn 8)),Qa (Qv 10) (Qd (Qn 9)),Qb 10 true (Qv 11),Qa (Qv 11) (Qg 1 (Qn 2)),Qb 10 true (Qv 12),Qa (Qv 12) (Qf 3 true (Qn 11)),Qb 10 true (Qv 13),Qa (Qv 13) (Qg 1 (Qn 3)),Qb 10 true (Qv 14),Qa (Qv 14) (Qf 3 true (Qn 13)),Qb 10 true (Qv 15),Qa (Qv 15) (MOp.eqs false [Qt,Qt,Leaf.s] (Qn 12) (Qn 14)),Qa (Qv 16) (Qm (Qn 10) (Qn 15) (Qo (Qp (Qq (Qs false))))),Qa (Qv 17) (Qd (Qn 16)),Qb 17 true (Qv 18),Qa (Qv 18) (Qg 4 (Qn 2)),Qb 17 true (Qv 19),Qa (Qv 19) (Qf 1 false (Qn 18)),Qb 17 true (Qv 20),Qa (Qv 20) (Qg 4 (Qn 3)),Qb 17 true (Qv 21),Qa (Qv 21) (Qf 1 false (Qn 20)),Qb 17 true (Qv 22),Qa (Qv 22) (Qh 84 [(Qn 19),(Qn 21)]),Qa (Qv 23) (Qm (Qn 17) (Qn 22) (Qo (Qp (Qq (Qs false))))),Qa (Qv 24) (Qd (Qn 23)),Qb 24 true (Qv 25),Qa (Qv 25) (Qg 5 (Qn 2)),Qb 24 true (Qv 26),Qa (Qv 26) (Qf 1 false (Qn 25)),Qb 24 true (Qv 27),Qa (Qv 27) (Qg 5 (Qn 3)),Qb 24 true (Qv 28),Qa (Qv 28) (Qf 1 false (Qn 27)),Qb 24 true (Qv 29),Qa (Qv 29) (Qh 85 [(Qn 26),(Qn 28)]),Qa (Qv 30) (Qm (Qn 24) (Qn 29) (Qo (Qp (Qq (Qs false))))),Qa (Qv 4) (Qd (Qn 30))]
def Wso:MC:=.r0 Yvi
def Yvj:MC:=.seq Wsn (.seq Wso .ret)
attribute [go_sem] Yvh Yvi
theorem W41:KK QP 83 f83 [2,3] Yvj [(RV.t 4)] 31:=by refine⟨func83,?_,?_,?_,?_⟩<;>kernel_rfl
theorem Wsp:Xaa QP 83=true:=by kernel_rfl
theorem Wsq (h:GI QP gp [(RV.t 4)] res 31 Yvj args):Xak QP gp 83 args res:=W41.i Wsp h
def Yvk:List MO:=[Qa (Qv 4) (Qd (Qo (Qp (Qq (Qs false)))))]
def Wsr:MC:=.r0 Yvk
def Yvl:List MO:=[Qa (Qv 6) (Qd (Qn 0)),Qa (Qv 7) (Qk Qt (Qn 6)),Qa (Qv 8) (Qd (Qn 1)),Qa (Qv 9) (Qk Qt (Qn 8)),Qa (Qv 10) (Qe Qt Go.BinOp.neq (Qn 7) (Qn 9))]
def Wss:MC:=.r0 Yvl
def Yvm:List MO:=[Qa (Qv 4) (Qd (Qo (Qp (Qq (Qs false)))))]
def Wst:MC:=.r0 Yvm
def Yvn:List MO:=[Qa (Qv 11) (Qd (Qn 0)),Qa (Qv 12) (Qk Qt (Qn 11)),Qa (Qv 13) (Qd (Qo (Qp (Qq (Qr Qu 0)))))]
def Wsu:MC:=.r0 Yvn
def Yvo:List MO:=[Qa (Qv 14) (Qe Qt Go.BinOp.lss (Qn 13) (Qn 12))]
def Wsv:MC:=.r0 Yvo
def X5v:List MO:=[Qa (Qv 15) (Qd (Qn 13)),Qa (Qv 5) (Qd (Qn 15))]
def Y6u:MC:=.r0 X5v
def X5w:List MO:=[Qa (Qv 16) (Qd (Qn 0)),Qa (Qv 17) (Qd (Qn 5)),Qa (Qv 18) (Qj 3 (Qn 16) (Qn 17)),Qa (Qv 19) (Qf 3 true (Qn 18)),Qa (Qv 20) (Qd (Qn 1)),Qa (Qv 21) (Qd (Qn 5)),Qa (Qv 22) (Qj 3 (Qn 20) (Qn 21)),Qa (Qv 23) (Qf 3 true (Qn 22)),Qa (Qv 24) (MOp.eqs true [Qt,Qt,Leaf.s] (Qn 19) (Qn 23))]
def Y6v:MC:=.reg true X5w
def X5x:List MO:=[Qa (Qv 4) (Qd (Qo (Qp (Qq (Qs false)))))]
def Y6w:MC:=.r0 X5x
def X5y:List MO:=[Qa (Qv 25) (Qe Qt Go.BinOp.add (Qn 13) (Qo (Qp (Qq (Qr Qu 1))))),Qa (Qv 13) (Qd (Qn 25))]
def Y6x:MC:=.r0 X5y
def Y6y:MC:=.seq (.blk 1 (.seq Y6u (.seq Y6v (.cond (Qn 24) (.seq Y6w .ret) .skip)))) Y6x
def X5z:List MO:=[Qa (Qv 4) (Qd (Qo (Qp (Qq (Qs true)))))]
def Y6z:MC:=.r0 X5z
def Y60:MC:=.seq (.seq Wsu (.blk 0 (.loop (.seq Wsv (.seq (.cond (Qn 14) .skip (MC.exit 0)) Y6y))))) (.seq Y6z .ret)
def X50:MC:=.seq Wsr (.seq (.seq Wss (.cond (Qn 10) (.seq Wst .ret) .skip)) Y60)
attribute [go_sem] Yvk Yvl Yvm Yvn Yvo X5v X5w X5x X5y X5z
theorem W42:KK QP 84 f84 [] X50 [(RV.t 4)] 26:=by refine⟨func84,?_,?_,?_,?_⟩<;>kernel_rfl
theorem Wsw:Xaa QP 84=true:=by kernel_rfl
theorem Wsx (h:GI QP gp [(RV.t 4)] res 26 X50 args):Xak QP gp 84 args res:=W42.i Wsw h
def Yvp:List MO:=[Qa (Qv 4) (Qd (Qo (Qp (Qq (Qs false)))))]
def Wsy:MC:=.r0 Yvp
def Yvq:List MO:=[Qa (Qv 6) (Qd (Qn 0)),Qa (Qv 7) (Qk Qt (Qn 6)),Qa (Qv 8) (Qd (Qn 1)),Qa (Qv 9) (Qk Qt (Qn 8)),Qa (Qv 10) (Qe Qt Go.BinOp.neq (Qn 7) (Qn 9))]
def Wsz:MC:=.r0 Yvq
def Yvr:List MO:=[Qa (Qv 4) (Qd (Qo (Qp (Qq (Qs false)))))]
def Ws0:MC:=.r0 Yvr
def Yvs:List MO:=[Qa (Qv 11) (Qd (Qn 0)),Qa (Qv 12) (Qk Qt (Qn 11)),Qa (Qv 13) (Qd (Qo (Qp (Qq (Qr Qu 0)))))]
def Ws1:MC:=.r0 Yvs
def Yvt:List MO:=[Qa (Qv 14) (Qe Qt Go.BinOp.lss (Qn 13) (Qn 12))]
def Ws2:MC:=.r0 Yvt
def X51:List MO:=[Qa (Qv 15) (Qd (Qn 13)),Qa (Qv 5) (Qd (Qn 15))]
def Y61:MC:=.r0 X51
def X52:List MO:=[Qa (Qv 16) (Qd (Qn 0)),Qa (Qv 17) (Qd (Qn 5)),Qa (Qv 18) (Qj 1 (Qn 16) (Qn 17)),Qa (Qv 19) (Qf 1 false (Qn 18)),Qa (Qv 20) (Qd (Qn 1)),Qa (Qv 21) (Qd (Qn 5)),Qa (Qv 22) (Qj 1 (Qn 20) (Qn 21)),Qa (Qv 23) (Qf 1 false (Qn 22)),Qa (Qv 24) (Qe Qt Go.BinOp.neq (Qn 19) (Qn 23))]
def Y62:MC:=.reg true X52
def X53:List MO:=[Qa (Qv 4) (Qd (Qo (Qp (Qq (Qs false)))))]
def Y63:MC:=.r0 X53
def X54:List MO:=[Qa (Qv 25) (Qe Qt Go.BinOp.add (Qn 13) (Qo (Qp (Qq (Qr Qu 1))))),Qa (Qv 13) (Qd (Qn 25))]
def Y64:MC:=.r0 X54
def Y65:MC:=.seq (.blk 1 (.seq Y61 (.seq Y62 (.cond (Qn 24) (.seq Y63 .ret) .skip)))) Y64
def X55:List MO:=[Qa (Qv 4) (Qd (Qo (Qp (Qq (Qs true)))))]
def Y66:MC:=.r0 X55
def Y67:MC:=.seq (.seq Ws1 (.blk 0 (.loop (.seq Ws2 (.seq (.cond (Qn 14) .skip (MC.exit 0)) Y65))))) (.seq Y66 .ret)
def X56:MC:=.seq Wsy (.seq (.seq Wsz (.cond (Qn 10) (.seq Ws0 .ret) .skip)) Y67)
attribute [go_sem] Yvp Yvq Yvr Yvs Yvt X51 X52 X53 X54 X55
theorem W43:KK QP 85 f85 [] X56 [(RV.t 4)] 26:=by refine⟨func85,?_,?_,?_,?_⟩<;>kernel_rfl
theorem Ws3:Xaa QP 85=true:=by kernel_rfl
theorem Ws4 (h:GI QP gp [(RV.t 4)] res 26 X56 args):Xak QP gp 85 args res:=W43.i Ws3 h
def Yvu:List MO:=[Qa (Qv 6) (Qd (Qo (Qp (Qq (Qs false)))))]
def Ws5:MC:=.r0 Yvu
def Yvv:List MO:=[Qa (Qv 10) (Qd (Qn 0)),Qa (Qv 11) (Qk Qt (Qn 10)),Qa (Qv 12) (Qd (Qn 1)),Qa (Qv 13) (Qk Qt (Qn 12)),Qa (Qv 14) (Qe Qt Go.BinOp.neq (Qn 11) (Qn 13))]
def Ws6:MC:=.r0 Yvv
def Yvw:List MO:=[Qa (Qv 6) (Qd (Qo (Qp (Qq (Qs false)))))]
def Ws7:MC:=.r0 Yvw
def Yvx:List MO:=[Qa (Qv 15) (Qd (Qn 0)),Qa (Qv 16) (Qk Qt (Qn 15)),Qa (Qv 17) (Qd (Qo (Qp (Qq (Qr Qu 0)))))]
def Ws8:MC:=.r0 Yvx
def Yvy:List MO:=[Qa (Qv 18) (Qe Qt Go.BinOp.lss (Qn 17) (Qn 16))]
def Ws9:MC:=.r0 Yvy
def X57:List MO:=[Qa (Qv 19) (Qd (Qn 17)),Qa (Qv 20) (Qj 6 (Qn 15) (Qn 17)),Qa (Qv 21) (Qf 6 true (Qn 20)),Qa (Qv 8) (MOp.alloc [(Qr Qu 0),(Qr Qu 0),(Qr Qu 0),(D.str (ByteArray.mk #[])),(D.sl []),(D.sl [])]),Qa (Qv 7) (Qd (Qn 19)),Qa none (Ql 6 (Qn 8) (Qn 21))]
def Y68:MC:=.r0 X57
def X58:List MO:=[Qa (Qv 22) (Qd (Qn 1)),Qa (Qv 23) (Qd (Qn 7)),Qa (Qv 24) (Qj 6 (Qn 22) (Qn 23)),Qa (Qv 25) (Qf 6 true (Qn 24)),Qa (Qv 9) (MOp.alloc [(Qr Qu 0),(Qr Qu 0),(Qr Qu 0),(D.str (ByteArray.mk #[])),(D.sl []),(D.sl [])]),Qa none (Ql 6 (Qn 9) (Qn 25))]
def Y69:MC:=.r0 X58
def X59:List MO:=[Qa (Qv 26) (Qd (Qn 2)),Qa (Qv 27) (Qf 6 true (Qn 8)),Qa (Qv 28) (Qf 6 true (Qn 9)),Qa (Qv 29) (MOp.callv (Qn 26) [(Qn 27),(Qn 28)]),Qa (Qv 30) (MOp.not (Qn 29))]
def Y7a:MC:=.r0 X59
def X6a:List MO:=[Qa (Qv 6) (Qd (Qo (Qp (Qq (Qs false)))))]
def Y7b:MC:=.r0 X6a
def Y7c:MC:=.seq Y68 (.seq Y69 (.seq Y7a (.cond (Qn 30) (.seq Y7b .ret) .skip)))
def X6b:List MO:=[Qa (Qv 31) (Qe Qt Go.BinOp.add (Qn 17) (Qo (Qp (Qq (Qr Qu 1))))),Qa (Qv 17) (Qd (Qn 31))]
def Y7d:MC:=.r0 X6b
def Y7e:MC:=.seq Ws8 (.blk 0 (.loop (.seq Ws9 (.seq (.cond (Qn 18) .skip (MC.exit 0)) (.seq (.blk 1 Y7c) Y7d)))))
def X6c:List MO:=[Qa (Qv 6) (Qd (Qo (Qp (Qq (Qs true)))))]
def Y7f:MC:=.r0 X6c
def Y7g:MC:=.seq (.seq Ws6 (.cond (Qn 14) (.seq Ws7 .ret) .skip)) (.seq Y7e (.seq Y7f .ret))
def X6d:MC:=.seq Ws5 Y7g
attribute [go_sem] Yvu Yvv Yvw Yvx Yvy X57 X58 X59 X6a X6b X6c
theorem W44:KK QP 86 f86 [] X6d [(RV.t 6)] 32:=by refine⟨func86,?_,?_,?_,?_⟩<;>kernel_rfl
theorem Wta:Xaa QP 86=true:=by kernel_rfl
theorem Wtb (h:GI QP gp [(RV.t 6)] res 32 X6d args):Xak QP gp 86 args res:=W44.i Wta h
def Yvz:List MO:=[Qa (Qv 2) (Qd (Qo (Qp (Qq (D.str (ByteArray.mk #[]))))))]
def Wtc:MC:=.r0 Yvz
def Yv0:List MO:=[Qa (Qv 3) (Qd (Qn 0)),Qa (Qv 4) (Qd (Qn 0)),Qa (Qv 5) (Qk Leaf.s (Qn 4)),Qa (Qv 6) (MOp.min (Qn 5) (Qo (Qp (Qq (Qr Qu 100))))),Qa (Qv 7) (MOp.slcS (Qn 3) none (Qv (Qn 6))),Qa (Qv 2) (Qd (Qn 7))]
def Wtd:MC:=.r0 Yv0
def Yv1:MC:=.seq Wtc (.seq Wtd .ret)
attribute [go_sem] Yvz Yv0
theorem W45:KK QP 94 f94 [] Yv1 [(RV.t 2)] 8:=by refine⟨func94,?_,?_,?_,?_⟩<;>kernel_rfl
theorem Wte:Xaa QP 94=true:=by kernel_rfl
theorem Wtf (h:GI QP gp [(RV.t 2)] res 8 Yv1 args):Xak QP gp 94 args res:=W45.i Wte h
def Yv2:List MO:=[Qa (Qv 1) (MOp.ibox (Qn 0)),Qa (Qv 2) (Qd (Qo (Qp (Qq D.nilF))))]
def Wtg:MC:=.r0 Yv2
def Yv3:List MO:=[Qa (Qv 3) (MOp.mkF (Go.Fn.func 121) [(Qn 1)]),Qa (Qv 2) (Qd (Qn 3))]
def Wth:MC:=.r0 Yv3
def Yv4:MC:=.seq Wtg (.seq Wth .ret)
attribute [go_sem] Yv2 Yv3
theorem W46:KK QP 95 f95 [1] Yv4 [(RV.t 2)] 4:=by refine⟨func95,?_,?_,?_,?_⟩<;>kernel_rfl
theorem Wti:Xaa QP 95=true:=by kernel_rfl
theorem Wtj (h:GI QP gp [(RV.t 2)] res 4 Yv4 args):Xak QP gp 95 args res:=W46.i Wti h
def Yv5:List MO:=[Qa (Qv 1) (MOp.ibox (Qn 0)),Qa (Qv 2) (Qd (Qo (Qp (Qq (Qs false)))))]
def Wtk:MC:=.r0 Yv5
def Yv6:List MO:=[Qa (Qv 4) (MOp.build [D.nilF,D.nilF,D.nilF] [(0,(1,(Qo (Qp (Qq (D.fn (Go.Fn.func 122) [])))))),(1,(1,(Qo (Qp (Qq (D.fn (Go.Fn.func 123) [])))))),(2,(1,(Qo (Qp (Qq (D.fn (Go.Fn.func 124) []))))))]),Qa (Qv 3) (MOp.alloc [D.nilF,D.nilF,D.nilF]),Qa none (Ql 3 (Qn 3) (Qn 4))]
def Wtl:MC:=.r0 Yv6
def Yv7:List MO:=[Qa (Qv 5) (Qg 0 (Qn 1)),Qa (Qv 6) (Qg 0 (Qn 5)),Qa (Qv 7) (Qf 1 false (Qn 6)),Qa (Qv 8) (Qe Qt Go.BinOp.geq (Qn 7) (Qo (Qp (Qq (Qr Qu 0))))),Qa (Qv 9) (Qd (Qn 8)),Qb 9 true (Qv 10),Qa (Qv 10) (Qg 0 (Qn 1)),Qb 9 true (Qv 11),Qa (Qv 11) (Qg 0 (Qn 10)),Qb 9 true (Qv 12),Qa (Qv 12) (Qf 1 false (Qn 11)),Qb 9 true (Qv 13),Qa (Qv 13) (Qe Qt Go.BinOp.lss (Qn 12) (Qo (Qp (Qq (Qr Qu 3))))),Qa (Qv 14) (Qm (Qn 9) (Qn 13) (Qo (Qp (Qq (Qs false))))),Qa (Qv 15) (Qd (Qn 14)),Qb 15 true (Qv 16),Qa (Qv 16) (Qg 0 (Qn 1)),Qb 15 true (Qv 17),Qa (Qv 17) (Qg 0 (Qn 16)),Qb 15 true (Qv 18),Qa (Qv 18) (Qf 1 false (Qn 17)),Qb 15 true (Qv 19),Qa (Qv 19) (MOp.iadA 3 1 (Qn 3) (Qn 18)),Qb 15 true (Qv 20),Qa (Qv 20) (Qf 1 false (Qn 19)),Qb 15 true (Qv 21),Qa (Qv 21) (Qf 7 true (Qn 1)),Qb 15 true (Qv 22),Qc (Qv 22) (MOp.callv (Qn 20) [(Qn 21)]),Qa (Qv 23) (Qm (Qn 15) (Qn 22) (Qo (Qp (Qq (Qs false))))),Qa (Qv 2) (Qd (Qn 23))]
def Wtm:MC:=.reg true Yv7
def Yv8:MC:=.seq Wtk (.seq Wtl (.seq Wtm .ret))
attribute [go_sem] Yv5 Yv6 Yv7
theorem W47:KK QP 96 f96 [1] Yv8 [(RV.t 2)] 24:=by refine⟨func96,?_,?_,?_,?_⟩<;>kernel_rfl
theorem Wtn:Xaa QP 96=true:=by kernel_rfl
theorem Wto (h:GI QP gp [(RV.t 2)] res 24 Yv8 args):Xak QP gp 96 args res:=W47.i Wtn h
def Yv9:List MO:=[Qa (Qv 2) (Qd (Qo (Qp (Qq (Qs false)))))]
def Wtp:MC:=.r0 Yv9
def Ywa:List MO:=[Qa (Qv 3) (Qd (Qo (Qp (Qq (Qr Qu 0)))))]
def Wtq:MC:=.r0 Ywa
def Ywb:List MO:=[Qa (Qv 5) (Qd (Qn 3)),Qa (Qv 6) (Qd (Qn 0)),Qa (Qv 7) (Qk Qt (Qn 6)),Qa (Qv 8) (Qe Qt Go.BinOp.lss (Qn 5) (Qn 7))]
def Wtr:MC:=.r0 Ywb
def Ywc:List MO:=[Qa (Qv 4) (Qd (Qo (Qp (Qq (Qr Qu 0)))))]
def Wts:MC:=.r0 Ywc
def Ywd:List MO:=[Qa (Qv 11) (Qd (Qn 4)),Qa (Qv 12) (Qd (Qn 3)),Qa (Qv 13) (Qe Qt Go.BinOp.lss (Qn 11) (Qn 12))]
def Wtt:MC:=.r0 Ywd
def X6e:List MO:=[Qa (Qv 16) (Qd (Qn 0)),Qa (Qv 17) (Qd (Qn 3)),Qa (Qv 18) (Qj 3 (Qn 16) (Qn 17)),Qa (Qv 19) (Qf 3 true (Qn 18)),Qa (Qv 20) (Qd (Qn 0)),Qa (Qv 21) (Qd (Qn 4)),Qa (Qv 22) (Qj 3 (Qn 20) (Qn 21)),Qa (Qv 23) (Qf 3 true (Qn 22)),Qa (Qv 24) (MOp.eqs false [Qt,Qt,Leaf.s] (Qn 19) (Qn 23))]
def Y7h:MC:=.reg true X6e
def X6f:List MO:=[Qa (Qv 2) (Qd (Qo (Qp (Qq (Qs true)))))]
def Y7i:MC:=.r0 X6f
def X6g:List MO:=[Qa (Qv 14) (Qd (Qn 4)),Qa (Qv 15) (Qe Qt Go.BinOp.add (Qn 14) (Qo (Qp (Qq (Qr Qu 1))))),Qa (Qv 4) (Qd (Qn 15))]
def Y7j:MC:=.r0 X6g
def Y7k:MC:=.seq (.seq Wtt (.cond (Qn 13) .skip (MC.exit 2))) (.seq (.blk 3 (.seq Y7h (.cond (Qn 24) (.seq Y7i .ret) .skip))) Y7j)
def X6h:List MO:=[Qa (Qv 9) (Qd (Qn 3)),Qa (Qv 10) (Qe Qt Go.BinOp.add (Qn 9) (Qo (Qp (Qq (Qr Qu 1))))),Qa (Qv 3) (Qd (Qn 10))]
def Y7l:MC:=.r0 X6h
def Y7m:MC:=.seq (.seq Wtr (.cond (Qn 8) .skip (MC.exit 0))) (.seq (.blk 1 (.seq Wts (.blk 2 (.loop Y7k)))) Y7l)
def X6i:List MO:=[Qa (Qv 2) (Qd (Qo (Qp (Qq (Qs false)))))]
def Y7n:MC:=.r0 X6i
def X6j:MC:=.seq Wtp (.seq (.seq Wtq (.blk 0 (.loop Y7m))) (.seq Y7n .ret))
attribute [go_sem] Yv9 Ywa Ywb Ywc Ywd X6e X6f X6g X6h X6i
theorem W48:KK QP 99 f99 [] X6j [(RV.t 2)] 25:=by refine⟨func99,?_,?_,?_,?_⟩<;>kernel_rfl
theorem Wtu:Xaa QP 99=true:=by kernel_rfl
theorem Wtv (h:GI QP gp [(RV.t 2)] res 25 X6j args):Xak QP gp 99 args res:=W48.i Wtu h
def X6k:List MO:=[Qa (Qv 2) (MOp.ibox (Qn 0)),Qa (Qv 3) (MOp.ibox (Qn 1)),Qa (Qv 4) (Qd (Qo (Qp (Qq (Qr Qu 0)))))]
def Y7o:MC:=.r0 X6k
def X6l:List MO:=[Qa (Qv 6) (Qg 0 (Qn 2)),Qa (Qv 7) (Qf 1 false (Qn 6)),Qa (Qv 8) (Qg 0 (Qn 3)),Qa (Qv 9) (Qf 1 false (Qn 8)),Qa (Qv 10) (Qe Qt Go.BinOp.lss (Qn 7) (Qn 9)),Qa (Qv 5) (Qd (Qn 10))]
def Y7p:MC:=.r0 X6l
def X6m:List MO:=[Qa (Qv 4) (Qd (Qo (Qp (Qq (Qr Qu (-1))))))]
def Y7q:MC:=.r0 X6m
def X6n:List MO:=[Qa (Qv 12) (Qg 0 (Qn 2)),Qa (Qv 13) (Qf 1 false (Qn 12)),Qa (Qv 14) (Qg 0 (Qn 3)),Qa (Qv 15) (Qf 1 false (Qn 14)),Qa (Qv 16) (Qe Qt Go.BinOp.gtr (Qn 13) (Qn 15)),Qa (Qv 11) (Qd (Qn 16))]
def Y7r:MC:=.r0 X6n
def X6o:List MO:=[Qa (Qv 4) (Qd (Qo (Qp (Qq (Qr Qu 1)))))]
def Y7s:MC:=.r0 X6o
def X6p:List MO:=[Qa (Qv 18) (Qg 1 (Qn 2)),Qa (Qv 19) (Qf 1 false (Qn 18)),Qa (Qv 20) (Qg 1 (Qn 3)),Qa (Qv 21) (Qf 1 false (Qn 20)),Qa (Qv 22) (Qe Qt Go.BinOp.lss (Qn 19) (Qn 21)),Qa (Qv 17) (Qd (Qn 22))]
def Y7t:MC:=.r0 X6p
def Xvg:List MO:=[Qa (Qv 4) (Qd (Qo (Qp (Qq (Qr Qu (-1))))))]
def Yld:MC:=.r0 Xvg
def Xvh:List MO:=[Qa (Qv 24) (Qg 1 (Qn 2)),Qa (Qv 25) (Qf 1 false (Qn 24)),Qa (Qv 26) (Qg 1 (Qn 3)),Qa (Qv 27) (Qf 1 false (Qn 26)),Qa (Qv 28) (Qe Qt Go.BinOp.gtr (Qn 25) (Qn 27)),Qa (Qv 23) (Qd (Qn 28))]
def Yle:MC:=.r0 Xvh
def Xvi:List MO:=[Qa (Qv 4) (Qd (Qo (Qp (Qq (Qr Qu 1)))))]
def Ylf:MC:=.r0 Xvi
def Xvj:List MO:=[Qa (Qv 30) (Qg 2 (Qn 2)),Qa (Qv 31) (Qf 1 false (Qn 30)),Qa (Qv 32) (Qg 2 (Qn 3)),Qa (Qv 33) (Qf 1 false (Qn 32)),Qa (Qv 34) (Qe Leaf.s Go.BinOp.lss (Qn 31) (Qn 33)),Qa (Qv 29) (Qd (Qn 34))]
def Ylg:MC:=.r0 Xvj
def Xvk:List MO:=[Qa (Qv 4) (Qd (Qo (Qp (Qq (Qr Qu (-1))))))]
def Ylh:MC:=.r0 Xvk
def Xvl:List MO:=[Qa (Qv 36) (Qg 2 (Qn 2)),Qa (Qv 37) (Qf 1 false (Qn 36)),Qa (Qv 38) (Qg 2 (Qn 3)),Qa (Qv 39) (Qf 1 false (Qn 38)),Qa (Qv 40) (Qe Leaf.s Go.BinOp.gtr (Qn 37) (Qn 39)),Qa (Qv 35) (Qd (Qn 40))]
def Yli:MC:=.r0 Xvl
def Xvm:List MO:=[Qa (Qv 4) (Qd (Qo (Qp (Qq (Qr Qu 1)))))]
def Ylj:MC:=.r0 Xvm
def Ylk:MC:=.seq Ylg (.cond (Qn 29) (.seq Ylh .ret) (.seq Yli (.cond (Qn 35) (.seq Ylj .ret) .skip)))
def Yll:MC:=.cond (Qn 17) (.seq Yld .ret) (.seq Yle (.cond (Qn 23) (.seq Ylf .ret) Ylk))
def Ylm:MC:=.seq Y7r (.cond (Qn 11) (.seq Y7s .ret) (.seq Y7t Yll))
def Xvn:List MO:=[Qa (Qv 4) (Qd (Qo (Qp (Qq (Qr Qu 0)))))]
def Yln:MC:=.r0 Xvn
def Ylo:MC:=.seq (.blk 0 (.seq Y7p (.cond (Qn 5) (.seq Y7q .ret) Ylm))) (.seq Yln .ret)
def Xvo:MC:=.seq Y7o Ylo
attribute [go_sem] X6k X6l X6m X6n X6o X6p Xvg Xvh Xvi Xvj Xvk Xvl Xvm Xvn
theorem Wtw:KK QP 104 f104 [2,3] Xvo [(RV.t 4)] 41:=by refine⟨func104,?_,?_,?_,?_⟩<;>kernel_rfl
theorem Y7u:Xaa QP 104=true:=by kernel_rfl
theorem Y7v (h:GI QP gp [(RV.t 4)] res 41 Xvo args):Xak QP gp 104 args res:=Wtw.i Y7u h
def X6q:List MO:=[Qa (Qv 6) (Qd (Qo (Qp (Qq (Qr Qu 20)))))]
def Y7w:MC:=.r0 X6q
def X6r:List MO:=[Qa (Qv 10) (Qd (Qn 6)),Qa (Qv 7) (Qd (Qo (Qp (Qq (Qr Qu 0))))),Qa (Qv 8) (Qd (Qn 10))]
def Y7x:MC:=.r0 X6r
def X6s:List MO:=[Qa (Qv 11) (Qd (Qn 8)),Qa (Qv 12) (Qd (Qn 1)),Qa (Qv 13) (Qe Qt Go.BinOp.leq (Qn 11) (Qn 12))]
def Y7y:MC:=.r0 X6s
def X6t:List MO:=[Qa (Qv 14) (Qd (Qn 0)),Qa (Qv 15) (Qd (Qn 7)),Qa (Qv 16) (Qd (Qn 8)),Qa (Qv 17) (Qd (Qn 2)),Qa (Qv 18) (Qh 134 [(Qn 14),(Qn 15),(Qn 16),(Qn 17)])]
def Y7z:MC:=.r0 X6t
def X6u:List MO:=[Qa (Qv 19) (Qd (Qn 8)),Qa (Qv 7) (Qd (Qn 19))]
def Y70:MC:=.r0 X6u
def X6v:List MO:=[Qa (Qv 20) (Qd (Qn 8)),Qa (Qv 21) (Qd (Qn 6)),Qa (Qv 22) (Qe Qt Go.BinOp.add (Qn 20) (Qn 21)),Qa (Qv 8) (Qd (Qn 22))]
def Y71:MC:=.r0 X6v
def Ylp:MC:=.seq (.seq Y7y (.cond (Qn 13) .skip (MC.exit 0))) (.blk 1 (.seq Y7z (.seq Y70 Y71)))
def Xvp:List MO:=[Qa (Qv 23) (Qd (Qn 0)),Qa (Qv 24) (Qd (Qn 7)),Qa (Qv 25) (Qd (Qn 1)),Qa (Qv 26) (Qd (Qn 2)),Qa (Qv 27) (Qh 134 [(Qn 23),(Qn 24),(Qn 25),(Qn 26)])]
def Ylq:MC:=.r0 Xvp
def Xvq:List MO:=[Qa (Qv 28) (Qd (Qn 6)),Qa (Qv 29) (Qd (Qn 1)),Qa (Qv 30) (Qe Qt Go.BinOp.lss (Qn 28) (Qn 29))]
def Ylr:MC:=.r0 Xvq
def Xvr:List MO:=[Qa (Qv 31) (Qd (Qn 6)),Qa (Qv 32) (Qe Qt Go.BinOp.mul (Qo (Qp (Qq (Qr Qu 2)))) (Qn 31)),Qa (Qv 7) (Qd (Qo (Qp (Qq (Qr Qu 0))))),Qa (Qv 8) (Qd (Qn 32))]
def Yls:MC:=.r0 Xvr
def Xvs:List MO:=[Qa (Qv 33) (Qd (Qn 8)),Qa (Qv 34) (Qd (Qn 1)),Qa (Qv 35) (Qe Qt Go.BinOp.leq (Qn 33) (Qn 34))]
def Ylt:MC:=.r0 Xvs
def Xvt:List MO:=[Qa (Qv 36) (Qd (Qn 0)),Qa (Qv 37) (Qd (Qn 7)),Qa (Qv 38) (Qd (Qn 7)),Qa (Qv 39) (Qd (Qn 6)),Qa (Qv 40) (Qe Qt Go.BinOp.add (Qn 38) (Qn 39)),Qa (Qv 41) (Qd (Qn 8)),Qa (Qv 42) (Qd (Qn 2)),Qa (Qv 43) (Qh 135 [(Qn 36),(Qn 37),(Qn 40),(Qn 41),(Qn 42)])]
def Ylu:MC:=.r0 Xvt
def Xvu:List MO:=[Qa (Qv 44) (Qd (Qn 8)),Qa (Qv 7) (Qd (Qn 44))]
def Ylv:MC:=.r0 Xvu
def Xvv:List MO:=[Qa (Qv 45) (Qd (Qn 8)),Qa (Qv 46) (Qd (Qn 6)),Qa (Qv 47) (Qe Qt Go.BinOp.mul (Qo (Qp (Qq (Qr Qu 2)))) (Qn 46)),Qa (Qv 48) (Qe Qt Go.BinOp.add (Qn 45) (Qn 47)),Qa (Qv 8) (Qd (Qn 48))]
def Ylw:MC:=.r0 Xvv
def Ylx:MC:=.seq (.seq Ylt (.cond (Qn 35) .skip (MC.exit 4))) (.blk 5 (.seq Ylu (.seq Ylv Ylw)))
def Xvw:List MO:=[Qa (Qv 49) (Qd (Qn 7)),Qa (Qv 50) (Qd (Qn 6)),Qa (Qv 51) (Qe Qt Go.BinOp.add (Qn 49) (Qn 50)),Qa (Qv 9) (Qd (Qn 51))]
def Yly:MC:=.r0 Xvw
def Xvx:List MO:=[Qa (Qv 52) (Qd (Qn 9)),Qa (Qv 53) (Qd (Qn 1)),Qa (Qv 54) (Qe Qt Go.BinOp.lss (Qn 52) (Qn 53))]
def Ylz:MC:=.r0 Xvx
def Xvy:List MO:=[Qa (Qv 55) (Qd (Qn 0)),Qa (Qv 56) (Qd (Qn 7)),Qa (Qv 57) (Qd (Qn 9)),Qa (Qv 58) (Qd (Qn 1)),Qa (Qv 59) (Qd (Qn 2)),Qa (Qv 60) (Qh 135 [(Qn 55),(Qn 56),(Qn 57),(Qn 58),(Qn 59)])]
def Yl0:MC:=.r0 Xvy
def Xvz:List MO:=[Qa (Qv 61) (Qd (Qn 6)),Qa (Qv 62) (Qe Qt Go.BinOp.mul (Qn 61) (Qo (Qp (Qq (Qr Qu 2))))),Qa (Qv 6) (Qd (Qn 62))]
def Yl1:MC:=.r0 Xvz
def Yl2:MC:=.seq (.seq Yly (.seq Ylz (.cond (Qn 54) Yl0 .skip))) Yl1
def Yl3:MC:=.seq (.seq Ylr (.cond (Qn 30) .skip (MC.exit 2))) (.blk 3 (.seq Yls (.seq (.blk 4 (.loop Ylx)) Yl2)))
def Yl4:MC:=.seq Y7x (.seq (.blk 0 (.loop Ylp)) (.seq Ylq (.blk 2 (.loop Yl3))))
def Xv0:MC:=.seq Y7w Yl4
attribute [go_sem] X6q X6r X6s X6t X6u X6v Xvp Xvq Xvr Xvs Xvt Xvu Xvv Xvw Xvx Xvy Xvz
theorem Wtx:KK QP 105 f105 [] Xv0 [] 63:=by refine⟨func105,?_,?_,?_,?_⟩<;>kernel_rfl
theorem Y72:Xaa QP 105=true:=by kernel_rfl
theorem Yl5 (h:GT QP gp [] pre R 63 Xv0 args):Tri QP gp 105 args pre R:=Wtx.t h
def X6w:List MO:=[Qa (Qv 2) (Qd (Qo (Qp (Qq (Qr Qu 0)))))]
def Y73:MC:=.r0 X6w
def X6x:List MO:=[Qa (Qv 3) (Qd (Qo (Qp (Qq (Qr Qu 0)))))]
def Y74:MC:=.r0 X6x
def X6y:List MO:=[Qa (Qv 6) (Qd (Qn 0)),Qa (Qv 7) (Qk Qt (Qn 6)),Qa (Qv 8) (Qd (Qo (Qp (Qq (Qr Qu 0)))))]
def Y75:MC:=.r0 X6y
def X6z:List MO:=[Qa (Qv 9) (Qe Qt Go.BinOp.lss (Qn 8) (Qn 7))]
def Y76:MC:=.r0 X6z
def X60:List MO:=[Qa (Qv 10) (Qj 1 (Qn 6) (Qn 8)),Qa (Qv 11) (Qf 1 false (Qn 10)),Qa (Qv 5) (Qd (Qn 11))]
def Y77:MC:=.r0 X60
def X61:List MO:=[Qa (Qv 12) (Qd (Qn 5)),Qa (Qv 13) (Qd (Qn 3)),Qa (Qv 14) (Qe Qt Go.BinOp.neq (Qn 12) (Qn 13))]
def Y78:MC:=.r0 X61
def X62:List MO:=[Qa (Qv 15) (Qd (Qn 5)),Qa (Qv 2) (Qd (Qn 15))]
def Y79:MC:=.r0 X62
def Xv1:List MO:=[Qa (Qv 16) (Qe Qt Go.BinOp.add (Qn 8) (Qo (Qp (Qq (Qr Qu 1))))),Qa (Qv 8) (Qd (Qn 16))]
def Yl6:MC:=.r0 Xv1
def Yl7:MC:=.seq (.blk 1 (.seq Y77 (.seq Y78 (.cond (Qn 14) (.seq Y79 .ret) .skip)))) Yl6
def Xv2:List MO:=[Qa (Qv 17) (Qd (Qn 3)),Qa (Qv 2) (Qd (Qn 17))]
def Yl8:MC:=.r0 Xv2
def Yl9:MC:=.seq (.seq Y75 (.blk 0 (.loop (.seq Y76 (.seq (.cond (Qn 9) .skip (MC.exit 0)) Yl7))))) (.seq Yl8 .ret)
def Xv3:MC:=.seq Y73 (.seq Y74 Yl9)
attribute [go_sem] X6w X6x X6y X6z X60 X61 X62 Xv1 Xv2
theorem Wty:KK QP 106 f106 [] Xv3 [(RV.t 2)] 18:=by refine⟨func106,?_,?_,?_,?_⟩<;>kernel_rfl
theorem Y8a:Xaa QP 106=true:=by kernel_rfl
theorem Y8b (h:GI QP gp [(RV.t 2)] res 18 Xv3 args):Xak QP gp 106 args res:=Wty.i Y8a h
def X63:List MO:=[Qa (Qv 4) (Qd (Qo (Qp (Qq (Qr Qu 0)))))]
def Y8c:MC:=.r0 X63
def X64:List MO:=[Qa (Qv 7) (Qd (Qn 0)),Qa (Qv 8) (Qh 136 [(Qn 7)]),Qa (Qv 5) (Qd (Qn 8))]
def Y8d:MC:=.r0 X64
def X65:List MO:=[Qa (Qv 9) (Qd (Qn 1)),Qa (Qv 10) (Qh 136 [(Qn 9)]),Qa (Qv 6) (Qd (Qn 10))]
def Y8e:MC:=.r0 X65
def X66:List MO:=[Qa (Qv 11) (Qd (Qn 5))]
def Y8f:MC:=.r0 X66
def X67:List MO:=[Qa (Qv 12) (Qd (Qn 6))]
def Y8g:MC:=.r0 X67
def X68:List MO:=[Qa (Qv 4) (Qd (Qo (Qp (Qq (Qr Qu 0)))))]
def Y8h:MC:=.r0 X68
def Xv4:List MO:=[Qa (Qv 4) (Qd (Qo (Qp (Qq (Qr Qu (-1))))))]
def Yma:MC:=.r0 Xv4
def Ymb:MC:=.seq Y8f (.cond (Qn 11) (.seq (.seq Y8g (.cond (Qn 12) (.seq Y8h .ret) .skip)) (.seq Yma .ret)) .skip)
def Xv5:List MO:=[Qa (Qv 13) (Qd (Qn 6))]
def Ymc:MC:=.r0 Xv5
def Xv6:List MO:=[Qa (Qv 4) (Qd (Qo (Qp (Qq (Qr Qu 1)))))]
def Ymd:MC:=.r0 Xv6
def Xv7:List MO:=[Qa (Qv 14) (Qd (Qn 0)),Qa (Qv 15) (Qd (Qn 1)),Qa (Qv 16) (Qe Qt Go.BinOp.lss (Qn 14) (Qn 15))]
def Yme:MC:=.r0 Xv7
def Xv8:List MO:=[Qa (Qv 4) (Qd (Qo (Qp (Qq (Qr Qu (-1))))))]
def Ymf:MC:=.r0 Xv8
def Xv9:List MO:=[Qa (Qv 17) (Qd (Qn 0)),Qa (Qv 18) (Qd (Qn 1)),Qa (Qv 19) (Qe Qt Go.BinOp.gtr (Qn 17) (Qn 18))]
def Ymg:MC:=.r0 Xv9
def Xwa:List MO:=[Qa (Qv 4) (Qd (Qo (Qp (Qq (Qr Qu 1)))))]
def Ymh:MC:=.r0 Xwa
def Xwb:List MO:=[Qa (Qv 4) (Qd (Qo (Qp (Qq (Qr Qu 0)))))]
def Ymi:MC:=.r0 Xwb
def Ymj:MC:=.seq (.seq Yme (.cond (Qn 16) (.seq Ymf .ret) .skip)) (.seq (.seq Ymg (.cond (Qn 19) (.seq Ymh .ret) .skip)) (.seq Ymi .ret))
def Ymk:MC:=.seq Ymb (.seq (.seq Ymc (.cond (Qn 13) (.seq Ymd .ret) .skip)) Ymj)
def Xwc:MC:=.seq Y8c (.seq Y8d (.seq Y8e Ymk))
attribute [go_sem] X63 X64 X65 X66 X67 X68 Xv4 Xv5 Xv6 Xv7 Xv8 Xv9 Xwa Xwb
theorem Wtz:KK QP 107 f107 [] Xwc [(RV.t 4)] 20:=by refine⟨func107,?_,?_,?_,?_⟩<;>kernel_rfl
theorem Y8i:Xaa QP 107=true:=by kernel_rfl
theorem Y8j (h:GI QP gp [(RV.t 4)] res 20 Xwc args):Xak QP gp 107 args res:=Wtz.i Y8i h
def X69:List MO:=[Qa (Qv 4) (Qd (Qo (Qp (Qq (Qr Qu 0)))))]
def Y8k:MC:=.r0 X69
def X7a:List MO:=[Qa (Qv 7) (Qd (Qn 0)),Qa (Qv 8) (Qh 137 [(Qn 7)]),Qa (Qv 5) (Qd (Qn 8))]
def Y8l:MC:=.r0 X7a
def X7b:List MO:=[Qa (Qv 9) (Qd (Qn 1)),Qa (Qv 10) (Qh 137 [(Qn 9)]),Qa (Qv 6) (Qd (Qn 10))]
def Y8m:MC:=.r0 X7b
def X7c:List MO:=[Qa (Qv 11) (Qd (Qn 5))]
def Y8n:MC:=.r0 X7c
def X7d:List MO:=[Qa (Qv 12) (Qd (Qn 6))]
def Y8o:MC:=.r0 X7d
def X7e:List MO:=[Qa (Qv 4) (Qd (Qo (Qp (Qq (Qr Qu 0)))))]
def Y8p:MC:=.r0 X7e
def Xwd:List MO:=[Qa (Qv 4) (Qd (Qo (Qp (Qq (Qr Qu (-1))))))]
def Yml:MC:=.r0 Xwd
def Ymm:MC:=.seq Y8n (.cond (Qn 11) (.seq (.seq Y8o (.cond (Qn 12) (.seq Y8p .ret) .skip)) (.seq Yml .ret)) .skip)
def Xwe:List MO:=[Qa (Qv 13) (Qd (Qn 6))]
def Ymn:MC:=.r0 Xwe
def Xwf:List MO:=[Qa (Qv 4) (Qd (Qo (Qp (Qq (Qr Qu 1)))))]
def Ymo:MC:=.r0 Xwf
def Xwg:List MO:=[Qa (Qv 14) (Qd (Qn 0)),Qa (Qv 15) (Qd (Qn 1)),Qa (Qv 16) (Qe Leaf.s Go.BinOp.lss (Qn 14) (Qn 15))]
def Ymp:MC:=.r0 Xwg
def Xwh:List MO:=[Qa (Qv 4) (Qd (Qo (Qp (Qq (Qr Qu (-1))))))]
def Ymq:MC:=.r0 Xwh
def Xwi:List MO:=[Qa (Qv 17) (Qd (Qn 0)),Qa (Qv 18) (Qd (Qn 1)),Qa (Qv 19) (Qe Leaf.s Go.BinOp.gtr (Qn 17) (Qn 18))]
def Ymr:MC:=.r0 Xwi
def Xwj:List MO:=[Qa (Qv 4) (Qd (Qo (Qp (Qq (Qr Qu 1)))))]
def Yms:MC:=.r0 Xwj
def Xwk:List MO:=[Qa (Qv 4) (Qd (Qo (Qp (Qq (Qr Qu 0)))))]
def Ymt:MC:=.r0 Xwk
def Ymu:MC:=.seq (.seq Ymp (.cond (Qn 16) (.seq Ymq .ret) .skip)) (.seq (.seq Ymr (.cond (Qn 19) (.seq Yms .ret) .skip)) (.seq Ymt .ret))
def Ymv:MC:=.seq Ymm (.seq (.seq Ymn (.cond (Qn 13) (.seq Ymo .ret) .skip)) Ymu)
def Xwl:MC:=.seq Y8k (.seq Y8l (.seq Y8m Ymv))
attribute [go_sem] X69 X7a X7b X7c X7d X7e Xwd Xwe Xwf Xwg Xwh Xwi Xwj Xwk
theorem Wt0:KK QP 108 f108 [] Xwl [(RV.t 4)] 20:=by refine⟨func108,?_,?_,?_,?_⟩<;>kernel_rfl
theorem Y8q:Xaa QP 108=true:=by kernel_rfl
theorem Y8r (h:GI QP gp [(RV.t 4)] res 20 Xwl args):Xak QP gp 108 args res:=Wt0.i Y8q h
def X7f:List MO:=[Qa (Qv 5) (Qg 1 (Qn 1)),Qa (Qv 6) (Qf 1 false (Qn 5)),Qa (Qv 7) (Qk Qt (Qn 6)),Qa (Qv 8) (Qd (Qo (Qp (Qq (Qr Qu 0)))))]
def Y8s:MC:=.r0 X7f
def X7g:List MO:=[Qa (Qv 9) (Qe Qt Go.BinOp.lss (Qn 8) (Qn 7))]
def Y8t:MC:=.r0 X7g
def X7h:List MO:=[Qa (Qv 10) (Qd (Qn 8)),Qa (Qv 11) (Qj 6 (Qn 6) (Qn 8)),Qa (Qv 12) (Qf 6 true (Qn 11)),Qa (Qv 4) (MOp.alloc [(Qr Qu 0),(Qr Qu 0),(Qr Qu 0),(D.str (ByteArray.mk #[])),(D.sl []),(D.sl [])]),Qa (Qv 3) (Qd (Qn 10)),Qa none (Ql 6 (Qn 4) (Qn 12))]
def Y8u:MC:=.r0 X7h
def X7i:List MO:=[Qa (Qv 13) (Qd (Qn 0)),Qa (Qv 14) (Qd (Qn 3)),Qa (Qv 15) (Qf 6 true (Qn 4)),Qa (Qv 16) (Qg 1 (Qn 1)),Qa (Qv 17) (Qf 1 false (Qn 16)),Qa (Qv 18) (Qk Qt (Qn 17)),Qa (Qv 19) (MOp.build [(Qr Qu 0),(Qr Qu 0),(Qr Qu 0),(D.str (ByteArray.mk #[])),(D.sl []),(D.sl []),(Qr Qu 0)] [(0,(6,(Qn 15))),(6,(1,(Qn 18)))]),Qa (Qv 20) (MOp.callv (Qn 13) [(Qn 14),(Qn 19)]),Qa (Qv 21) (MOp.not (Qn 20))]
def Y8v:MC:=.r0 X7i
def Xwm:List MO:=[Qa (Qv 22) (Qe Qt Go.BinOp.add (Qn 8) (Qo (Qp (Qq (Qr Qu 1))))),Qa (Qv 8) (Qd (Qn 22))]
def Ymw:MC:=.r0 Xwm
def Ymx:MC:=.seq Y8t (.seq (.cond (Qn 9) .skip (MC.exit 0)) (.seq (.blk 1 (.seq Y8u (.seq Y8v (.cond (Qn 21) (MC.exit 0) .skip)))) Ymw))
def Xwn:MC:=.scope (.seq .skip (.seq Y8s (.blk 0 (.loop Ymx))))
attribute [go_sem] X7f X7g X7h X7i Xwm
theorem Wt1:KK QP 121 f121 [] Xwn [] 23:=by refine⟨func121,?_,?_,?_,?_⟩<;>kernel_rfl
theorem Y8w:Xaa QP 121=true:=by kernel_rfl
theorem Ymy (h:GT QP gp [] pre R 23 Xwn args):Tri QP gp 121 args pre R:=Wt1.t h
def X7j:List MO:=[Qa (Qv 1) (MOp.ibox (Qn 0)),Qa (Qv 2) (Qd (Qo (Qp (Qq (Qs false)))))]
def Y8x:MC:=.r0 X7j
def X7k:List MO:=[Qa (Qv 3) (Qg 0 (Qn 1)),Qa (Qv 4) (Qg 1 (Qn 3)),Qa (Qv 5) (Qf 3 true (Qn 4)),Qa (Qv 6) (Qh 127 [(Qn 5)]),Qa (Qv 7) (Qg 0 (Qn 1)),Qa (Qv 8) (Qg 4 (Qn 7)),Qa (Qv 9) (Qf 1 false (Qn 8)),Qa (Qv 10) (Qk Qt (Qn 9)),Qa (Qv 11) (Qe Qt Go.BinOp.eql (Qn 10) (Qo (Qp (Qq (Qr Qu 0))))),Qa (Qv 12) (Qg 0 (Qn 1)),Qa (Qv 13) (Qg 5 (Qn 12)),Qa (Qv 14) (Qf 1 false (Qn 13)),Qa (Qv 15) (Qk Qt (Qn 14)),Qa (Qv 16) (Qe Qt Go.BinOp.eql (Qn 15) (Qo (Qp (Qq (Qr Qu 0))))),Qa (Qv 17) (MOp.bslice 1 [(Qs false)] 3 [(0,(Qn 6)),(1,(Qn 11)),(2,(Qn 16))]),Qc (Qv 18) (Qh 143 [(Qn 17)]),Qa (Qv 2) (Qd (Qn 18))]
def Y8y:MC:=.reg true X7k
def X7l:MC:=.seq Y8x (.seq Y8y .ret)
attribute [go_sem] X7j X7k
theorem Wt2:KK QP 122 f122 [1] X7l [(RV.t 2)] 19:=by refine⟨func122,?_,?_,?_,?_⟩<;>kernel_rfl
theorem Y8z:Xaa QP 122=true:=by kernel_rfl
theorem Y80 (h:GI QP gp [(RV.t 2)] res 19 X7l args):Xak QP gp 122 args res:=Wt2.i Y8z h
def X7m:List MO:=[Qa (Qv 1) (MOp.ibox (Qn 0)),Qa (Qv 2) (Qd (Qo (Qp (Qq (Qs false)))))]
def Y81:MC:=.r0 X7m
def X7n:List MO:=[Qa (Qv 3) (Qg 0 (Qn 1)),Qa (Qv 4) (Qg 1 (Qn 3)),Qa (Qv 5) (Qf 3 true (Qn 4)),Qa (Qv 6) (MOp.build [(Qr Qu 0),(Qr Qu 0),(D.str (ByteArray.mk #[]))] []),Qa (Qv 7) (MOp.eqs false [Qt,Qt,Leaf.s] (Qn 5) (Qn 6)),Qa (Qv 8) (Qg 0 (Qn 1)),Qa (Qv 9) (Qg 4 (Qn 8)),Qa (Qv 10) (Qf 1 false (Qn 9)),Qa (Qv 11) (Qk Qt (Qn 10)),Qa (Qv 12) (Qe Qt Go.BinOp.eql (Qn 11) (Qo (Qp (Qq (Qr Qu 0))))),Qa (Qv 13) (Qf 7 true (Qn 1)),Qa (Qv 14) (Qh 144 [(Qn 13)]),Qa (Qv 15) (MOp.bslice 1 [(Qs false)] 3 [(0,(Qn 7)),(1,(Qn 12)),(2,(Qn 14))]),Qc (Qv 16) (Qh 143 [(Qn 15)]),Qa (Qv 2) (Qd (Qn 16))]
def Y82:MC:=.reg true X7n
def X7o:MC:=.seq Y81 (.seq Y82 .ret)
attribute [go_sem] X7m X7n
theorem Wt3:KK QP 123 f123 [1] X7o [(RV.t 2)] 17:=by refine⟨func123,?_,?_,?_,?_⟩<;>kernel_rfl
theorem Y83:Xaa QP 123=true:=by kernel_rfl
theorem Y84 (h:GI QP gp [(RV.t 2)] res 17 X7o args):Xak QP gp 123 args res:=Wt3.i Y83 h
def X7p:List MO:=[Qa (Qv 1) (MOp.ibox (Qn 0)),Qa (Qv 2) (Qd (Qo (Qp (Qq (Qs false)))))]
def Y85:MC:=.r0 X7p
def X7q:List MO:=[Qa (Qv 3) (Qg 0 (Qn 1)),Qa (Qv 4) (Qg 1 (Qn 3)),Qa (Qv 5) (Qf 3 true (Qn 4)),Qa (Qv 6) (MOp.build [(Qr Qu 0),(Qr Qu 0),(D.str (ByteArray.mk #[]))] []),Qa (Qv 7) (MOp.eqs false [Qt,Qt,Leaf.s] (Qn 5) (Qn 6)),Qa (Qv 8) (Qf 7 true (Qn 1)),Qa (Qv 9) (Qh 79 [(Qn 8)]),Qa (Qv 10) (Qf 7 true (Qn 1)),Qa (Qv 11) (Qh 145 [(Qn 10)]),Qa (Qv 12) (Qf 7 true (Qn 1)),Qa (Qv 13) (Qh 144 [(Qn 12)]),Qa (Qv 14) (MOp.bslice 1 [(Qs false)] 4 [(0,(Qn 7)),(1,(Qn 9)),(2,(Qn 11)),(3,(Qn 13))]),Qc (Qv 15) (Qh 143 [(Qn 14)]),Qa (Qv 2) (Qd (Qn 15))]
def Y86:MC:=.reg true X7q
def X7r:MC:=.seq Y85 (.seq Y86 .ret)
attribute [go_sem] X7p X7q
theorem Wt4:KK QP 124 f124 [1] X7r [(RV.t 2)] 16:=by refine⟨func124,?_,?_,?_,?_⟩<;>kernel_rfl
theorem Y87:Xaa QP 124=true:=by kernel_rfl
theorem Y88 (h:GI QP gp [(RV.t 2)] res 16 X7r args):Xak QP gp 124 args res:=Wt4.i Y87 h
def X7s:List MO:=[Qa (Qv 1) (MOp.ibox (Qn 0)),Qa (Qv 2) (Qd (Qo (Qp (Qq (Qs false)))))]
def Y89:MC:=.r0 X7s
def X7t:List MO:=[Qa (Qv 3) (Qg 0 (Qn 1)),Qa (Qv 4) (Qf 1 false (Qn 3))]
def Y9a:MC:=.r0 X7t
def X7u:List MO:=[Qa (Qv 6) (Qe Qt Go.BinOp.eql (Qn 4) (Qo (Qp (Qq (Qr Qu 0))))),Qa (Qv 5) (Qd (Qn 6))]
def Y9b:MC:=.r0 X7u
def X7v:List MO:=[Qa (Qv 7) (Qf 3 true (Qn 1)),Qa (Qv 8) (MOp.build [(Qr Qu 0),(Qr Qu 0),(D.str (ByteArray.mk #[]))] []),Qa (Qv 9) (MOp.eqs false [Qt,Qt,Leaf.s] (Qn 7) (Qn 8)),Qa (Qv 2) (Qd (Qn 9))]
def Y9c:MC:=.r0 X7v
def X7w:List MO:=[Qa (Qv 11) (Qe Qt Go.BinOp.eql (Qn 4) (Qo (Qp (Qq (Qr Qu 1))))),Qa (Qv 10) (Qd (Qn 11))]
def Y9d:MC:=.r0 X7w
def X7x:List MO:=[Qa (Qv 12) (Qg 2 (Qn 1)),Qa (Qv 13) (Qf 1 false (Qn 12)),Qa (Qv 14) (Qe Leaf.s Go.BinOp.eql (Qn 13) (Qo (Qp (Qq (D.str (ByteArray.mk #[])))))),Qa (Qv 15) (Qd (Qn 14)),Qb 15 true (Qv 16),Qa (Qv 16) (Qg 1 (Qn 1)),Qb 15 true (Qv 17),Qa (Qv 17) (Qf 1 false (Qn 16)),Qb 15 true (Qv 18),Qa (Qv 18) (Qe Qt Go.BinOp.eql (Qn 17) (Qo (Qp (Qq (Qr Qu 0))))),Qb 15 true (Qv 19),Qa (Qv 19) (Qd (Qn 18)),Qb 19 false (Qv 20),Qa (Qv 20) (Qg 1 (Qn 1)),Qb 19 false (Qv 21),Qa (Qv 21) (Qf 1 false (Qn 20)),Qb 19 false (Qv 22),Qa (Qv 22) (Qe Qt Go.BinOp.eql (Qn 21) (Qo (Qp (Qq (Qr Qu 1))))),Qb 15 true (Qv 23),Qa (Qv 23) (Qm (Qn 19) (Qo (Qp (Qq (Qs true)))) (Qn 22)),Qa (Qv 24) (Qm (Qn 15) (Qn 23) (Qo (Qp (Qq (Qs false))))),Qa (Qv 2) (Qd (Qn 24))]
def Y9e:MC:=.r0 X7x
def Xwo:List MO:=[Qa (Qv 26) (Qe Qt Go.BinOp.eql (Qn 4) (Qo (Qp (Qq (Qr Qu 2))))),Qa (Qv 25) (Qd (Qn 26))]
def Ymz:MC:=.r0 Xwo
def Xwp:List MO:=[Qa (Qv 27) (Qg 2 (Qn 1)),Qa (Qv 28) (Qf 1 false (Qn 27)),Qa (Qv 29) (Qe Leaf.s Go.BinOp.eql (Qn 28) (Qo (Qp (Qq (D.str (ByteArray.mk #[])))))),Qa (Qv 30) (Qd (Qn 29)),Qb 30 true (Qv 31),Qa (Qv 31) (Qg 1 (Qn 1)),Qb 30 true (Qv 32),Qa (Qv 32) (Qf 1 false (Qn 31)),Qb 30 true (Qv 33),Qa (Qv 33) (Qe Qt Go.BinOp.geq (Qn 32) (Qo (Qp (Qq (Qr Qu (-999999999999999)))))),Qa (Qv 34) (Qm (Qn 30) (Qn 33) (Qo (Qp (Qq (Qs false))))),Qa (Qv 35) (Qd (Qn 34)),Qb 35 true (Qv 36),Qa (Qv 36) (Qg 1 (Qn 1)),Qb 35 true (Qv 37),Qa (Qv 37) (Qf 1 false (Qn 36)),Qb 35 true (Qv 38),Qa (Qv 38) (Qe Qt Go.BinOp.leq (Qn 37) (Qo (Qp (Qq (Qr Qu 999999999999999))))),Qa (Qv 39) (Qm (Qn 35) (Qn 38) (Qo (Qp (Qq (Qs false))))),Qa (Qv 2) (Qd (Qn 39))]
def Ym0:MC:=.r0 Xwp
def Xwq:List MO:=[Qa (Qv 41) (Qe Qt Go.BinOp.eql (Qn 4) (Qo (Qp (Qq (Qr Qu 3))))),Qa (Qv 40) (Qd (Qn 41))]
def Ym1:MC:=.r0 Xwq
def Xwr:List MO:=[Qa (Qv 42) (Qg 1 (Qn 1)),Qa (Qv 43) (Qf 1 false (Qn 42)),Qa (Qv 44) (Qe Qt Go.BinOp.eql (Qn 43) (Qo (Qp (Qq (Qr Qu 0))))),Qa (Qv 45) (Qd (Qn 44)),Qb 45 true (Qv 46),Qa (Qv 46) (Qg 2 (Qn 1)),Qb 45 true (Qv 47),Qa (Qv 47) (Qf 1 false (Qn 46)),Qb 45 true (Qv 48),Qa (Qv 48) (Qh 147 [(Qn 47)]),Qa (Qv 49) (Qm (Qn 45) (Qn 48) (Qo (Qp (Qq (Qs false))))),Qa (Qv 2) (Qd (Qn 49))]
def Ym2:MC:=.r0 Xwr
def Ym3:MC:=.seq Ymz (.cond (Qn 25) (.seq Ym0 .ret) (.seq Ym1 (.cond (Qn 40) (.seq Ym2 .ret) .skip)))
def Ym4:MC:=.cond (Qn 5) (.seq Y9c .ret) (.seq Y9d (.cond (Qn 10) (.seq Y9e .ret) Ym3))
def Xws:List MO:=[Qa (Qv 2) (Qd (Qo (Qp (Qq (Qs false)))))]
def Ym5:MC:=.r0 Xws
def Ym6:MC:=.seq (.seq Y9a (.blk 0 (.seq Y9b Ym4))) (.seq Ym5 .ret)
def Xwt:MC:=.seq Y89 Ym6
attribute [go_sem] X7s X7t X7u X7v X7w X7x Xwo Xwp Xwq Xwr Xws
theorem Wt5:KK QP 127 f127 [1] Xwt [(RV.t 2)] 50:=by refine⟨func127,?_,?_,?_,?_⟩<;>kernel_rfl
theorem Y9f:Xaa QP 127=true:=by kernel_rfl
theorem Y9g (h:GI QP gp [(RV.t 2)] res 50 Xwt args):Xak QP gp 127 args res:=Wt5.i Y9f h
def X7y:List MO:=[Qa (Qv 10) (Qd (Qn 1)),Qa (Qv 11) (Qe Qt Go.BinOp.add (Qn 10) (Qo (Qp (Qq (Qr Qu 1))))),Qa (Qv 8) (Qd (Qn 11))]
def Y9h:MC:=.r0 X7y
def X7z:List MO:=[Qa (Qv 12) (Qd (Qn 8)),Qa (Qv 13) (Qd (Qn 2)),Qa (Qv 14) (Qe Qt Go.BinOp.lss (Qn 12) (Qn 13))]
def Y9i:MC:=.r0 X7z
def X70:List MO:=[Qa (Qv 17) (Qd (Qn 8)),Qa (Qv 9) (Qd (Qn 17))]
def Y9j:MC:=.r0 X70
def X71:List MO:=[Qa (Qv 18) (Qd (Qn 9)),Qa (Qv 19) (Qd (Qn 1)),Qa (Qv 20) (Qe Qt Go.BinOp.gtr (Qn 18) (Qn 19)),Qa (Qv 21) (Qd (Qn 20)),Qb 21 true (Qv 22),Qa (Qv 22) (Qd (Qn 3)),Qb 21 true (Qv 23),Qa (Qv 23) (Qd (Qn 0)),Qb 21 true (Qv 24),Qa (Qv 24) (Qd (Qn 9)),Qb 21 true (Qv 25),Qa (Qv 25) (Qj 4 (Qn 23) (Qn 24)),Qb 21 true (Qv 26),Qa (Qv 26) (Qf 4 true (Qn 25)),Qb 21 true (Qv 27),Qa (Qv 27) (Qd (Qn 0)),Qb 21 true (Qv 28),Qa (Qv 28) (Qd (Qn 9)),Qb 21 true (Qv 29),Qa (Qv 29) (Qe Qt Go.BinOp.sub (Qn 28) (Qo (Qp (Qq (Qr Qu 1))))),Qb 21 true (Qv 30),Qa (Qv 30) (Qj 4 (Qn 27) (Qn 29)),Qb 21 true (Qv 31),Qa (Qv 31) (Qf 4 true (Qn 30)),Qb 21 true (Qv 32),Qc (Qv 32) (MOp.callv (Qn 22) [(Qn 26),(Qn 31)]),Qb 21 true (Qv 33),Qa (Qv 33) (Qe Qt Go.BinOp.lss (Qn 32) (Qo (Qp (Qq (Qr Qu 0))))),Qa (Qv 34) (Qm (Qn 21) (Qn 33) (Qo (Qp (Qq (Qs false)))))]
def Y9k:MC:=.reg true X71
def Xwu:List MO:=[Qa (Qv 37) (Qd (Qn 0)),Qa (Qv 38) (Qd (Qn 9)),Qa (Qv 39) (Qd (Qn 0)),Qa (Qv 40) (Qd (Qn 9)),Qa (Qv 41) (Qe Qt Go.BinOp.sub (Qn 40) (Qo (Qp (Qq (Qr Qu 1))))),Qa (Qv 42) (Qd (Qn 0)),Qa (Qv 43) (Qd (Qn 9)),Qa (Qv 44) (Qe Qt Go.BinOp.sub (Qn 43) (Qo (Qp (Qq (Qr Qu 1))))),Qa (Qv 45) (Qj 4 (Qn 42) (Qn 44)),Qa (Qv 46) (Qf 4 true (Qn 45)),Qa (Qv 47) (Qd (Qn 0)),Qa (Qv 48) (Qd (Qn 9)),Qa (Qv 49) (Qj 4 (Qn 47) (Qn 48)),Qa (Qv 50) (Qf 4 true (Qn 49)),Qa (Qv 51) (Qj 4 (Qn 37) (Qn 38)),Qa none (Ql 4 (Qn 51) (Qn 46)),Qa (Qv 52) (Qj 4 (Qn 39) (Qn 41)),Qa none (Ql 4 (Qn 52) (Qn 50))]
def Ym7:MC:=.reg true Xwu
def Xwv:List MO:=[Qa (Qv 35) (Qd (Qn 9)),Qa (Qv 36) (Qe Qt Go.BinOp.sub (Qn 35) (Qo (Qp (Qq (Qr Qu 1))))),Qa (Qv 9) (Qd (Qn 36))]
def Ym8:MC:=.r0 Xwv
def Ym9:MC:=.seq Y9j (.blk 2 (.loop (.seq (.seq Y9k (.cond (Qn 34) .skip (MC.exit 2))) (.seq (.blk 3 Ym7) Ym8))))
def Xww:List MO:=[Qa (Qv 15) (Qd (Qn 8)),Qa (Qv 16) (Qe Qt Go.BinOp.add (Qn 15) (Qo (Qp (Qq (Qr Qu 1))))),Qa (Qv 8) (Qd (Qn 16))]
def Yna:MC:=.r0 Xww
def Xwx:MC:=.seq Y9h (.blk 0 (.loop (.seq (.seq Y9i (.cond (Qn 14) .skip (MC.exit 0))) (.seq (.blk 1 Ym9) Yna))))
attribute [go_sem] X7y X7z X70 X71 Xwu Xwv Xww
theorem Wt6:KK QP 134 f134 [] Xwx [] 53:=by refine⟨func134,?_,?_,?_,?_⟩<;>kernel_rfl
theorem Y9l:Xaa QP 134=true:=by kernel_rfl
theorem Ynb (h:GT QP gp [] pre R 53 Xwx args):Tri QP gp 134 args pre R:=Wt6.t h
def X72:List MO:=[Qa (Qv 2) (Qd (Qo (Qp (Qq (Qs false)))))]
def Y9m:MC:=.r0 X72
def X73:List MO:=[Qa (Qv 3) (Qd (Qn 0)),Qa (Qv 4) (Qd (Qn 0)),Qa (Qv 5) (Qe Qt Go.BinOp.neq (Qn 3) (Qn 4)),Qa (Qv 2) (Qd (Qn 5))]
def Y9n:MC:=.r0 X73
def X74:MC:=.seq Y9m (.seq Y9n .ret)
attribute [go_sem] X72 X73
theorem Wt7:KK QP 136 f136 [] X74 [(RV.t 2)] 6:=by refine⟨func136,?_,?_,?_,?_⟩<;>kernel_rfl
theorem Y9o:Xaa QP 136=true:=by kernel_rfl
theorem Y9p (h:GI QP gp [(RV.t 2)] res 6 X74 args):Xak QP gp 136 args res:=Wt7.i Y9o h
def X75:List MO:=[Qa (Qv 2) (Qd (Qo (Qp (Qq (Qs false)))))]
def Y9q:MC:=.r0 X75
def X76:List MO:=[Qa (Qv 3) (Qd (Qn 0)),Qa (Qv 4) (Qd (Qn 0)),Qa (Qv 5) (Qe Leaf.s Go.BinOp.neq (Qn 3) (Qn 4)),Qa (Qv 2) (Qd (Qn 5))]
def Y9r:MC:=.r0 X76
def X77:MC:=.seq Y9q (.seq Y9r .ret)
attribute [go_sem] X75 X76
theorem Wt8:KK QP 137 f137 [] X77 [(RV.t 2)] 6:=by refine⟨func137,?_,?_,?_,?_⟩<;>kernel_rfl
theorem Y9s:Xaa QP 137=true:=by kernel_rfl
theorem Y9t (h:GI QP gp [(RV.t 2)] res 6 X77 args):Xak QP gp 137 args res:=Wt8.i Y9s h
def X78:List MO:=[Qa (Qv 2) (Qd (Qo (Qp (Qq (Qs false)))))]
def Y9u:MC:=.r0 X78
def X79:List MO:=[Qa (Qv 3) (Qd (Qn 0)),Qa (Qv 4) (Qh 154 [(Qn 3),(Qo (Qp (Qq (Qs false))))]),Qa (Qv 5) (MOp.not (Qn 4)),Qa (Qv 2) (Qd (Qn 5))]
def Y9v:MC:=.r0 X79
def X8a:MC:=.seq Y9u (.seq Y9v .ret)
attribute [go_sem] X78 X79
theorem Wt9:KK QP 143 f143 [] X8a [(RV.t 2)] 6:=by refine⟨func143,?_,?_,?_,?_⟩<;>kernel_rfl
theorem Y9w:Xaa QP 143=true:=by kernel_rfl
theorem Y9x (h:GI QP gp [(RV.t 2)] res 6 X8a args):Xak QP gp 143 args res:=Wt9.i Y9w h
def X8b:List MO:=[Qa (Qv 1) (MOp.ibox (Qn 0)),Qa (Qv 2) (Qd (Qo (Qp (Qq (Qs false)))))]
def Y9y:MC:=.r0 X8b
def X8c:List MO:=[Qa (Qv 4) (MOp.mkF (Go.Fn.func 155) [(Qn 1)]),Qa (Qv 3) (Qd (Qn 4))]
def Y9z:MC:=.r0 X8c
def X8d:List MO:=[Qa (Qv 5) (Qg 0 (Qn 1)),Qa (Qv 6) (Qg 5 (Qn 5)),Qa (Qv 7) (Qf 1 false (Qn 6)),Qa (Qv 8) (Qd (Qn 3)),Qa (Qv 9) (Qh 156 [(Qn 7),(Qn 8)]),Qa (Qv 10) (MOp.not (Qn 9)),Qa (Qv 2) (Qd (Qn 10))]
def Y90:MC:=.r0 X8d
def X8e:MC:=.seq Y9y (.seq Y9z (.seq Y90 .ret))
attribute [go_sem] X8b X8c X8d
theorem Wua:KK QP 144 f144 [1] X8e [(RV.t 2)] 11:=by refine⟨func144,?_,?_,?_,?_⟩<;>kernel_rfl
theorem Y91:Xaa QP 144=true:=by kernel_rfl
theorem Y92 (h:GI QP gp [(RV.t 2)] res 11 X8e args):Xak QP gp 144 args res:=Wua.i Y91 h
def X8f:List MO:=[Qa (Qv 1) (MOp.ibox (Qn 0)),Qa (Qv 2) (Qd (Qo (Qp (Qq (Qs false)))))]
def Y93:MC:=.r0 X8f
def X8g:List MO:=[Qa (Qv 3) (Qd (Qo (Qp (Qq (D.fn (Go.Fn.func 157) [])))))]
def Y94:MC:=.r0 X8g
def X8h:List MO:=[Qa (Qv 4) (Qg 0 (Qn 1)),Qa (Qv 5) (Qg 4 (Qn 4)),Qa (Qv 6) (Qf 1 false (Qn 5)),Qa (Qv 7) (Qd (Qn 3)),Qa (Qv 8) (Qh 158 [(Qn 6),(Qn 7)]),Qa (Qv 9) (MOp.not (Qn 8)),Qa (Qv 10) (Qd (Qn 9)),Qb 10 true (Qv 11),Qa (Qv 11) (Qg 0 (Qn 1)),Qb 10 true (Qv 12),Qa (Qv 12) (Qg 4 (Qn 11)),Qb 10 true (Qv 13),Qa (Qv 13) (Qf 1 false (Qn 12)),Qb 10 true (Qv 14),Qa (Qv 14) (Qh 159 [(Qn 13)]),Qb 10 true (Qv 15),Qa (Qv 15) (MOp.not (Qn 14)),Qa (Qv 16) (Qm (Qn 10) (Qn 15) (Qo (Qp (Qq (Qs false))))),Qa (Qv 2) (Qd (Qn 16))]
def Y95:MC:=.r0 X8h
def X8i:MC:=.seq Y93 (.seq Y94 (.seq Y95 .ret))
attribute [go_sem] X8f X8g X8h
theorem Wub:KK QP 145 f145 [1] X8i [(RV.t 2)] 17:=by refine⟨func145,?_,?_,?_,?_⟩<;>kernel_rfl
theorem Y96:Xaa QP 145=true:=by kernel_rfl
theorem Y97 (h:GI QP gp [(RV.t 2)] res 17 X8i args):Xak QP gp 145 args res:=Wub.i Y96 h
def X8j:List MO:=[Qa (Qv 2) (Qd (Qo (Qp (Qq (Qs false)))))]
def Y98:MC:=.r0 X8j
def X8k:List MO:=[Qa (Qv 7) (Qd (Qn 0)),Qa (Qv 8) (MOp.rng (Qn 7))]
def Y99:MC:=.r0 X8k
def X8l:List MO:=[Qa (Qv 9) (MOp.nxt (Qn 8)),Qa (Qv 10) (Qi (Qn 9) 0)]
def Waa:MC:=.r0 X8l
def X8m:List MO:=[Qa (Qv 11) (Qi (Qn 9) 1),Qa (Qv 12) (Qi (Qn 9) 2),Qa (Qv 3) (Qd (Qn 11)),Qa (Qv 4) (Qd (Qn 12))]
def Wab:MC:=.r0 X8m
def X8n:List MO:=[Qa (Qv 14) (Qd (Qn 0)),Qa (Qv 15) (Qd (Qn 3)),Qa (Qv 16) (MOp.slcS (Qn 14) (Qv (Qn 15)) none),Qa (Qv 17) (Qh 161 [(Qn 16)]),Qa (Qv 13) (Qd (Qn 17)),Qa (Qv 18) (Qi (Qn 13) 0),Qa (Qv 19) (Qi (Qn 13) 1),Qa (Qv 5) (Qd (Qn 18)),Qa (Qv 6) (Qd (Qn 19))]
def Wac:MC:=.r0 X8n
def X8o:List MO:=[Qa (Qv 20) (Qd (Qn 4)),Qa (Qv 21) (Qe Qt Go.BinOp.eql (Qn 20) (Qo (Qp (Qq (Qr Go.IntKind.i32 65533))))),Qa (Qv 22) (Qd (Qn 21)),Qb 22 true (Qv 23),Qa (Qv 23) (Qd (Qn 6)),Qb 22 true (Qv 24),Qa (Qv 24) (Qe Qt Go.BinOp.eql (Qn 23) (Qo (Qp (Qq (Qr Qu 1))))),Qa (Qv 25) (Qm (Qn 22) (Qn 24) (Qo (Qp (Qq (Qs false)))))]
def Wad:MC:=.r0 X8o
def X8p:List MO:=[Qa (Qv 2) (Qd (Qo (Qp (Qq (Qs false)))))]
def Wae:MC:=.r0 X8p
def Ync:MC:=.seq Wab (.seq Wac (.seq Wad (.cond (Qn 25) (.seq Wae .ret) .skip)))
def Xwy:List MO:=[Qa (Qv 2) (Qd (Qo (Qp (Qq (Qs true)))))]
def Ynd:MC:=.r0 Xwy
def Yne:MC:=.seq (.seq Y99 (.blk 0 (.loop (.seq Waa (.seq (.cond (Qn 10) .skip (MC.exit 0)) (.blk 1 Ync)))))) (.seq Ynd .ret)
def Xwz:MC:=.seq Y98 Yne
attribute [go_sem] X8j X8k X8l X8m X8n X8o X8p Xwy
theorem Wuc:KK QP 147 f147 [] Xwz [(RV.t 2)] 26:=by refine⟨func147,?_,?_,?_,?_⟩<;>kernel_rfl
theorem Waf:Xaa QP 147=true:=by kernel_rfl
theorem Wag (h:GI QP gp [(RV.t 2)] res 26 Xwz args):Xak QP gp 147 args res:=Wuc.i Waf h
def X8q:List MO:=[Qa (Qv 4) (Qd (Qo (Qp (Qq (Qs false)))))]
def Wah:MC:=.r0 X8q
def X8r:List MO:=[Qa (Qv 5) (Qd (Qn 0)),Qa (Qv 6) (Qd (Qn 1)),Qa (Qv 7) (Qh 173 [(Qn 5),(Qn 6)]),Qa (Qv 8) (Qe Qt Go.BinOp.geq (Qn 7) (Qo (Qp (Qq (Qr Qu 0))))),Qa (Qv 4) (Qd (Qn 8))]
def Wai:MC:=.r0 X8r
def X8s:MC:=.seq Wah (.seq Wai .ret)
attribute [go_sem] X8q X8r
theorem Wud:KK QP 154 f154 [] X8s [(RV.t 4)] 9:=by refine⟨func154,?_,?_,?_,?_⟩<;>kernel_rfl
theorem Waj:Xaa QP 154=true:=by kernel_rfl
theorem Wak (h:GI QP gp [(RV.t 4)] res 9 X8s args):Xak QP gp 154 args res:=Wud.i Waj h
def X8t:List MO:=[Qa (Qv 3) (Qd (Qo (Qp (Qq (Qs false)))))]
def Wal:MC:=.r0 X8t
def X8u:List MO:=[Qa (Qv 4) (Qd (Qn 0)),Qa (Qv 5) (Qe Qt Go.BinOp.lss (Qn 4) (Qo (Qp (Qq (Qr Qu 0))))),Qa (Qv 6) (Qd (Qn 5)),Qb 6 false (Qv 7),Qa (Qv 7) (Qd (Qn 0)),Qb 6 false (Qv 8),Qa (Qv 8) (Qg 6 (Qn 1)),Qb 6 false (Qv 9),Qa (Qv 9) (Qf 1 false (Qn 8)),Qb 6 false (Qv 10),Qa (Qv 10) (Qe Qt Go.BinOp.geq (Qn 7) (Qn 9)),Qa (Qv 11) (Qm (Qn 6) (Qo (Qp (Qq (Qs true)))) (Qn 10)),Qa (Qv 3) (Qd (Qn 11))]
def Wam:MC:=.r0 X8u
def X8v:MC:=.seq Wal (.seq Wam .ret)
attribute [go_sem] X8t X8u
theorem Wue:KK QP 155 f155 [] X8v [(RV.t 3)] 12:=by refine⟨func155,?_,?_,?_,?_⟩<;>kernel_rfl
theorem Wan:Xaa QP 155=true:=by kernel_rfl
theorem Wao (h:GI QP gp [(RV.t 3)] res 12 X8v args):Xak QP gp 155 args res:=Wue.i Wan h
def X8w:List MO:=[Qa (Qv 4) (Qd (Qo (Qp (Qq (Qs false)))))]
def Wap:MC:=.r0 X8w
def X8x:List MO:=[Qa (Qv 5) (Qd (Qn 0)),Qa (Qv 6) (Qd (Qn 1)),Qa (Qv 7) (Qh 174 [(Qn 5),(Qn 6)]),Qa (Qv 8) (Qe Qt Go.BinOp.geq (Qn 7) (Qo (Qp (Qq (Qr Qu 0))))),Qa (Qv 4) (Qd (Qn 8))]
def Waq:MC:=.r0 X8x
def X8y:MC:=.seq Wap (.seq Waq .ret)
attribute [go_sem] X8w X8x
theorem Wuf:KK QP 156 f156 [] X8y [(RV.t 4)] 9:=by refine⟨func156,?_,?_,?_,?_⟩<;>kernel_rfl
theorem War:Xaa QP 156=true:=by kernel_rfl
theorem Was (h:GI QP gp [(RV.t 4)] res 9 X8y args):Xak QP gp 156 args res:=Wuf.i War h
def X8z:List MO:=[Qa (Qv 1) (MOp.ibox (Qn 0)),Qa (Qv 2) (Qd (Qo (Qp (Qq (Qs false)))))]
def Wat:MC:=.r0 X8z
def X80:List MO:=[Qa (Qv 3) (Qf 3 true (Qn 1)),Qa (Qv 4) (Qh 127 [(Qn 3)]),Qa (Qv 5) (MOp.not (Qn 4)),Qa (Qv 2) (Qd (Qn 5))]
def Wau:MC:=.r0 X80
def X81:MC:=.seq Wat (.seq Wau .ret)
attribute [go_sem] X8z X80
theorem Wug:KK QP 157 f157 [1] X81 [(RV.t 2)] 6:=by refine⟨func157,?_,?_,?_,?_⟩<;>kernel_rfl
theorem Wav:Xaa QP 157=true:=by kernel_rfl
theorem Waw (h:GI QP gp [(RV.t 2)] res 6 X81 args):Xak QP gp 157 args res:=Wug.i Wav h
def X82:List MO:=[Qa (Qv 4) (Qd (Qo (Qp (Qq (Qs false)))))]
def Wax:MC:=.r0 X82
def X83:List MO:=[Qa (Qv 5) (Qd (Qn 0)),Qa (Qv 6) (Qd (Qn 1)),Qa (Qv 7) (Qh 175 [(Qn 5),(Qn 6)]),Qa (Qv 8) (Qe Qt Go.BinOp.geq (Qn 7) (Qo (Qp (Qq (Qr Qu 0))))),Qa (Qv 4) (Qd (Qn 8))]
def Way:MC:=.r0 X83
def X84:MC:=.seq Wax (.seq Way .ret)
attribute [go_sem] X82 X83
theorem Wuh:KK QP 158 f158 [] X84 [(RV.t 4)] 9:=by refine⟨func158,?_,?_,?_,?_⟩<;>kernel_rfl
theorem Waz:Xaa QP 158=true:=by kernel_rfl
theorem Wa0 (h:GI QP gp [(RV.t 4)] res 9 X84 args):Xak QP gp 158 args res:=Wuh.i Waz h
def X85:List MO:=[Qa (Qv 2) (Qd (Qo (Qp (Qq (Qs false)))))]
def Wa1:MC:=.r0 X85
def X86:List MO:=[Qa (Qv 3) (MOp.alloc [(Qr Qu 0)]),Qa none (Ql 1 (Qn 3) (Qo (Qp (Qq (Qr Qu 0)))))]
def Wa2:MC:=.r0 X86
def X87:List MO:=[Qa (Qv 4) (Qd (Qn 0)),Qa (Qv 5) (Qh 176 [(Qn 4)])]
def Wa3:MC:=.r0 X87
def X88:List MO:=[Qa (Qv 7) (Qf 1 false (Qn 3)),Qa (Qv 8) (Qe Qt Go.BinOp.add (Qn 7) (Qo (Qp (Qq (Qr Qu 1))))),Qa none (Ql 1 (Qn 3) (Qn 8))]
def Wa4:MC:=.r0 X88
def Wa5:MC:=.rf (Qn 5) [6] .skip (.blk 1 Wa4)
def X89:List MO:=[Qa (Qv 9) (Qf 1 false (Qn 3)),Qa (Qv 10) (Qd (Qn 0)),Qa (Qv 11) (Qk Qt (Qn 10)),Qa (Qv 12) (Qe Qt Go.BinOp.lss (Qn 9) (Qn 11)),Qa (Qv 2) (Qd (Qn 12))]
def Wa6:MC:=.r0 X89
def Ynf:MC:=.seq Wa2 (.seq (.seq Wa3 (.blk 0 Wa5)) (.seq Wa6 .ret))
def Xw0:MC:=.seq Wa1 Ynf
attribute [go_sem] X85 X86 X87 X88 X89
theorem Wui:KK QP 159 f159 [] Xw0 [(RV.t 2)] 13:=by refine⟨func159,?_,?_,?_,?_⟩<;>kernel_rfl
theorem Wa7:Xaa QP 159=true:=by kernel_rfl
theorem Wa8 (h:GI QP gp [(RV.t 2)] res 13 Xw0 args):Xak QP gp 159 args res:=Wui.i Wa7 h
def X9a:List MO:=[Qa (Qv 4) (Qd (Qo (Qp (Qq (Qr Qu 0)))))]
def Wa9:MC:=.r0 X9a
def X9b:List MO:=[Qa (Qv 6) (Qd (Qn 0)),Qa (Qv 7) (Qk Qt (Qn 6)),Qa (Qv 8) (Qd (Qo (Qp (Qq (Qr Qu 0)))))]
def Wba:MC:=.r0 X9b
def X9c:List MO:=[Qa (Qv 9) (Qe Qt Go.BinOp.lss (Qn 8) (Qn 7))]
def Wbb:MC:=.r0 X9c
def X9d:List MO:=[Qa (Qv 10) (Qd (Qn 8)),Qa (Qv 5) (Qd (Qn 10))]
def Wbc:MC:=.r0 X9d
def X9e:List MO:=[Qa (Qv 11) (Qd (Qn 1)),Qa (Qv 12) (Qd (Qn 0)),Qa (Qv 13) (Qd (Qn 5)),Qa (Qv 14) (Qj 1 (Qn 12) (Qn 13)),Qa (Qv 15) (Qf 1 false (Qn 14)),Qa (Qv 16) (Qe Leaf.b Go.BinOp.eql (Qn 11) (Qn 15))]
def Wbd:MC:=.r0 X9e
def X9f:List MO:=[Qa (Qv 17) (Qd (Qn 5)),Qa (Qv 4) (Qd (Qn 17))]
def Wbe:MC:=.r0 X9f
def Xw1:List MO:=[Qa (Qv 18) (Qe Qt Go.BinOp.add (Qn 8) (Qo (Qp (Qq (Qr Qu 1))))),Qa (Qv 8) (Qd (Qn 18))]
def Yng:MC:=.r0 Xw1
def Ynh:MC:=.seq (.blk 1 (.seq Wbc (.seq Wbd (.cond (Qn 16) (.seq Wbe .ret) .skip)))) Yng
def Xw2:List MO:=[Qa (Qv 4) (Qd (Qo (Qp (Qq (Qr Qu (-1))))))]
def Yni:MC:=.r0 Xw2
def Ynj:MC:=.seq (.seq Wba (.blk 0 (.loop (.seq Wbb (.seq (.cond (Qn 9) .skip (MC.exit 0)) Ynh))))) (.seq Yni .ret)
def Xw3:MC:=.seq Wa9 Ynj
attribute [go_sem] X9a X9b X9c X9d X9e X9f Xw1 Xw2
theorem Wuj:KK QP 173 f173 [] Xw3 [(RV.t 4)] 19:=by refine⟨func173,?_,?_,?_,?_⟩<;>kernel_rfl
theorem Wbf:Xaa QP 173=true:=by kernel_rfl
theorem Wbg (h:GI QP gp [(RV.t 4)] res 19 Xw3 args):Xak QP gp 173 args res:=Wuj.i Wbf h
def X9g:List MO:=[Qa (Qv 4) (Qd (Qo (Qp (Qq (Qr Qu 0)))))]
def Wbh:MC:=.r0 X9g
def X9h:List MO:=[Qa (Qv 6) (Qd (Qn 0)),Qa (Qv 7) (Qk Qt (Qn 6)),Qa (Qv 8) (Qd (Qo (Qp (Qq (Qr Qu 0)))))]
def Wbi:MC:=.r0 X9h
def X9i:List MO:=[Qa (Qv 9) (Qe Qt Go.BinOp.lss (Qn 8) (Qn 7))]
def Wbj:MC:=.r0 X9i
def X9j:List MO:=[Qa (Qv 10) (Qd (Qn 8)),Qa (Qv 5) (Qd (Qn 10))]
def Wbk:MC:=.r0 X9j
def X9k:List MO:=[Qa (Qv 11) (Qd (Qn 1)),Qa (Qv 12) (Qd (Qn 0)),Qa (Qv 13) (Qd (Qn 5)),Qa (Qv 14) (Qj 1 (Qn 12) (Qn 13)),Qa (Qv 15) (Qf 1 false (Qn 14)),Qa (Qv 16) (MOp.callv (Qn 11) [(Qn 15)])]
def Wbl:MC:=.r0 X9k
def X9l:List MO:=[Qa (Qv 17) (Qd (Qn 5)),Qa (Qv 4) (Qd (Qn 17))]
def Wbm:MC:=.r0 X9l
def Xw4:List MO:=[Qa (Qv 18) (Qe Qt Go.BinOp.add (Qn 8) (Qo (Qp (Qq (Qr Qu 1))))),Qa (Qv 8) (Qd (Qn 18))]
def Ynk:MC:=.r0 Xw4
def Ynl:MC:=.seq (.blk 1 (.seq Wbk (.seq Wbl (.cond (Qn 16) (.seq Wbm .ret) .skip)))) Ynk
def Xw5:List MO:=[Qa (Qv 4) (Qd (Qo (Qp (Qq (Qr Qu (-1))))))]
def Ynm:MC:=.r0 Xw5
def Ynn:MC:=.seq (.seq Wbi (.blk 0 (.loop (.seq Wbj (.seq (.cond (Qn 9) .skip (MC.exit 0)) Ynl))))) (.seq Ynm .ret)
def Xw6:MC:=.seq Wbh Ynn
attribute [go_sem] X9g X9h X9i X9j X9k X9l Xw4 Xw5
theorem Wuk:KK QP 174 f174 [] Xw6 [(RV.t 4)] 19:=by refine⟨func174,?_,?_,?_,?_⟩<;>kernel_rfl
theorem Wbn:Xaa QP 174=true:=by kernel_rfl
theorem Wbo (h:GI QP gp [(RV.t 4)] res 19 Xw6 args):Xak QP gp 174 args res:=Wuk.i Wbn h
def X9m:List MO:=[Qa (Qv 4) (Qd (Qo (Qp (Qq (Qr Qu 0)))))]
def Wbp:MC:=.r0 X9m
def X9n:List MO:=[Qa (Qv 6) (Qd (Qn 0)),Qa (Qv 7) (Qk Qt (Qn 6)),Qa (Qv 8) (Qd (Qo (Qp (Qq (Qr Qu 0)))))]
def Wbq:MC:=.r0 X9n
def X9o:List MO:=[Qa (Qv 9) (Qe Qt Go.BinOp.lss (Qn 8) (Qn 7))]
def Wbr:MC:=.r0 X9o
def X9p:List MO:=[Qa (Qv 10) (Qd (Qn 8)),Qa (Qv 5) (Qd (Qn 10))]
def Wbs:MC:=.r0 X9p
def X9q:List MO:=[Qa (Qv 11) (Qd (Qn 1)),Qa (Qv 12) (Qd (Qn 0)),Qa (Qv 13) (Qd (Qn 5)),Qa (Qv 14) (Qj 3 (Qn 12) (Qn 13)),Qa (Qv 15) (Qf 3 true (Qn 14)),Qa (Qv 16) (MOp.callv (Qn 11) [(Qn 15)])]
def Wbt:MC:=.r0 X9q
def X9r:List MO:=[Qa (Qv 17) (Qd (Qn 5)),Qa (Qv 4) (Qd (Qn 17))]
def Wbu:MC:=.r0 X9r
def Xw7:List MO:=[Qa (Qv 18) (Qe Qt Go.BinOp.add (Qn 8) (Qo (Qp (Qq (Qr Qu 1))))),Qa (Qv 8) (Qd (Qn 18))]
def Yno:MC:=.r0 Xw7
def Ynp:MC:=.seq (.blk 1 (.seq Wbs (.seq Wbt (.cond (Qn 16) (.seq Wbu .ret) .skip)))) Yno
def Xw8:List MO:=[Qa (Qv 4) (Qd (Qo (Qp (Qq (Qr Qu (-1))))))]
def Ynq:MC:=.r0 Xw8
def Ynr:MC:=.seq (.seq Wbq (.blk 0 (.loop (.seq Wbr (.seq (.cond (Qn 9) .skip (MC.exit 0)) Ynp))))) (.seq Ynq .ret)
def Xw9:MC:=.seq Wbp Ynr
attribute [go_sem] X9m X9n X9o X9p X9q X9r Xw7 Xw8
theorem Wul:KK QP 175 f175 [] Xw9 [(RV.t 4)] 19:=by refine⟨func175,?_,?_,?_,?_⟩<;>kernel_rfl
theorem Wbv:Xaa QP 175=true:=by kernel_rfl
theorem Wbw (h:GI QP gp [(RV.t 4)] res 19 Xw9 args):Xak QP gp 175 args res:=Wul.i Wbv h
def X9s:List MO:=[Qa (Qv 1) (MOp.ibox (Qn 0)),Qa (Qv 2) (Qd (Qo (Qp (Qq D.nilF))))]
def Wbx:MC:=.r0 X9s
def X9t:List MO:=[Qa (Qv 3) (MOp.mkF (Go.Fn.func 186) [(Qn 1)]),Qa (Qv 2) (Qd (Qn 3))]
def Wby:MC:=.r0 X9t
def X9u:MC:=.seq Wbx (.seq Wby .ret)
attribute [go_sem] X9s X9t
theorem Wum:KK QP 176 f176 [1] X9u [(RV.t 2)] 4:=by refine⟨func176,?_,?_,?_,?_⟩<;>kernel_rfl
theorem Wbz:Xaa QP 176=true:=by kernel_rfl
theorem Wb0 (h:GI QP gp [(RV.t 2)] res 4 X9u args):Xak QP gp 176 args res:=Wum.i Wbz h
def X9v:List MO:=[Qa (Qv 6) MOp.mkM,Qa (Qv 3) (Qd (Qn 6))]
def Wb1:MC:=.r0 X9v
def X9w:List MO:=[Qa (Qv 7) (Qf 1 false (Qn 1)),Qa (Qv 8) (Qk Qt (Qn 7)),Qa (Qv 9) (Qd (Qo (Qp (Qq (Qr Qu 0)))))]
def Wb2:MC:=.r0 X9w
def X9x:List MO:=[Qa (Qv 10) (Qe Qt Go.BinOp.lss (Qn 9) (Qn 8))]
def Wb3:MC:=.r0 X9x
def X9y:List MO:=[Qa (Qv 11) (Qj 3 (Qn 7) (Qn 9)),Qa (Qv 12) (Qf 3 true (Qn 11)),Qa (Qv 5) (MOp.alloc [(Qr Qu 0),(Qr Qu 0),(D.str (ByteArray.mk #[]))]),Qa none (Ql 3 (Qn 5) (Qn 12))]
def Wb4:MC:=.r0 X9y
def X9z:List MO:=[Qa (Qv 13) (Qd (Qn 3)),Qa (Qv 14) (Qf 3 true (Qn 5)),Qa (Qv 15) (MOp.lkp false (Qp (Qq (Qs false))) true [Qt,Qt,Leaf.s] (Qn 13) (Qn 14)),Qa (Qv 16) (Qd (Qn 15)),Qb 16 false (Qv 17),Qa (Qv 17) (Qd (Qn 0)),Qb 16 false (Qv 18),Qa (Qv 18) (Qf 3 true (Qn 5)),Qb 16 false (Qv 19),Qa (Qv 19) (MOp.callv (Qn 17) [(Qn 18)]),Qb 16 false (Qv 20),Qa (Qv 20) (MOp.not (Qn 19)),Qa (Qv 21) (Qm (Qn 16) (Qo (Qp (Qq (Qs true)))) (Qn 20))]
def Wb5:MC:=.r0 X9z
def Xxa:List MO:=[Qa (Qv 22) (Qd (Qn 3)),Qa (Qv 23) (Qf 3 true (Qn 5)),Qa none (MOp.mupd true [Qt,Qt,Leaf.s] (Qn 22) (Qn 23) (Qo (Qp (Qq (Qs true)))))]
def Yns:MC:=.r0 Xxa
def Xxb:List MO:=[Qa (Qv 24) (Qe Qt Go.BinOp.add (Qn 9) (Qo (Qp (Qq (Qr Qu 1))))),Qa (Qv 9) (Qd (Qn 24))]
def Ynt:MC:=.r0 Xxb
def Ynu:MC:=.seq (.blk 1 (.seq Wb4 (.seq (.seq Wb5 (.cond (Qn 21) (MC.exit 0) .skip)) Yns))) Ynt
def Ynv:MC:=.seq Wb1 (.seq .skip (.seq Wb2 (.blk 0 (.loop (.seq Wb3 (.seq (.cond (Qn 10) .skip (MC.exit 0)) Ynu))))))
def Xxc:MC:=.scope Ynv
attribute [go_sem] X9v X9w X9x X9y X9z Xxa Xxb
theorem Wun:KK QP 186 f186 [] Xxc [] 25:=by refine⟨func186,?_,?_,?_,?_⟩<;>kernel_rfl
theorem Wb6:Xaa QP 186=true:=by kernel_rfl
theorem Ynw (h:GT QP gp [] pre R 25 Xxc args):Tri QP gp 186 args pre R:=Wun.t h
end Go.Fw.L07
