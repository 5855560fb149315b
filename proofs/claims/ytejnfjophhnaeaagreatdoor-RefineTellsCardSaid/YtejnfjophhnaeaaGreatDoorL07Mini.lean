/- Small codes. -/
import Derived.Test.YtejnfjophhnaeaaGreatDoorFd
import Derived.Test.YtejnfjophhnaeaaGreatDoorProg
set_option linter.all false
namespace Go.Fw.L07
open Go Go.Fw
open Go.Proofs.Tryz renaming prog->QP
open Go.Proofs.Tryz (f104 f105 f106 f107 f108 f121 f122 f123 f124 f127 f134 f136 f137 f143 f144 f145 f147 f154 f155 f156 f157 f158 f159 f173 f174 f175 f176 f186 f20 f21 f35 f36 f39 f44 f46 f47 f49 f50 f51 f52 f64 f68 f69 f70 f72 f76 f77 f78 f79 f80 f81 f82 f94 f95 f96 f99 func104 func105 func106 func107 func108 func121 func122 func123 func124 func127 func134 func136 func137 func143 func144 func145 func147 func154 func155 func156 func157 func158 func159 func173 func174 func175 func176 func186 func20 func21 func35 func36 func39 func44 func46 func47 func49 func50 func51 func52 func64 func68 func69 func70 func72 func76 func77 func78 func79 func80 func81 func82 func94 func95 func96 func99)
open Go.Fw.MO renaming op->Qa,chk->Qb,opx->Qc
open Go.Fw.MOp renaming mv->Qd,bin->Qe,load->Qf,fad->Qg,call->Qh,ext->Qi,iad->Qj,len->Qk,store->Ql,pick->Qm
open Go.Fw.Opd renaming t->Qn,c->Qo
open Go.Fw.V renaming one->Qp
open Go.Fw.A renaming d->Qq
open Go.Fw.D renaming int->Qr,bool->Qs
open Go.Fw.Leaf renaming i->Qt
open Go.IntKind renaming i64->Qu
open Option renaming some->Qv
variable {gp:Xag} {args:List V} {res:V} {pre:List Ch} {R:V->List Ch->Prop}
def Yo3:List MO:=[Qa (Qv 4) (Qd (Qo (Qp (Qq (Qs false)))))]
def Wfx:MC:=.r0 Yo3
def Yo4:List MO:=[Qa (Qv 6) (Qd (Qn 0)),Qa (Qv 7) (Qk Qt (Qn 6)),Qa (Qv 8) (Qd (Qn 1)),Qa (Qv 9) (Qk Qt (Qn 8)),Qa (Qv 10) (Qe Qt Go.BinOp.neq (Qn 7) (Qn 9))]
def Wfy:MC:=.r0 Yo4
def Yo5:List MO:=[Qa (Qv 4) (Qd (Qo (Qp (Qq (Qs false)))))]
def Wfz:MC:=.r0 Yo5
def Yo6:List MO:=[Qa (Qv 5) (Qd (Qo (Qp (Qq (Qr Qu 0)))))]
def Wf0:MC:=.r0 Yo6
def Yo7:List MO:=[Qa (Qv 11) (Qd (Qn 5)),Qa (Qv 12) (Qd (Qn 0)),Qa (Qv 13) (Qk Qt (Qn 12)),Qa (Qv 14) (Qe Qt Go.BinOp.lss (Qn 11) (Qn 13))]
def Wf1:MC:=.r0 Yo7
def X2e:List MO:=[Qa (Qv 17) (Qd (Qn 0)),Qa (Qv 18) (Qd (Qn 5)),Qa (Qv 19) (Qj 1 (Qn 17) (Qn 18)),Qa (Qv 20) (Qf 1 false (Qn 19)),Qa (Qv 21) (Qd (Qn 1)),Qa (Qv 22) (Qd (Qn 5)),Qa (Qv 23) (Qj 1 (Qn 21) (Qn 22)),Qa (Qv 24) (Qf 1 false (Qn 23)),Qa (Qv 25) (Qe Qt Go.BinOp.neq (Qn 20) (Qn 24))]
def Ywu:MC:=.reg true X2e
def X2f:List MO:=[Qa (Qv 4) (Qd (Qo (Qp (Qq (Qs false)))))]
def Ywv:MC:=.r0 X2f
def X2g:List MO:=[Qa (Qv 15) (Qd (Qn 5)),Qa (Qv 16) (Qe Qt Go.BinOp.add (Qn 15) (Qo (Qp (Qq (Qr Qu 1))))),Qa (Qv 5) (Qd (Qn 16))]
def Yww:MC:=.r0 X2g
def Ywx:MC:=.seq (.seq Wf1 (.cond (Qn 14) .skip (MC.exit 0))) (.seq (.blk 1 (.seq Ywu (.cond (Qn 25) (.seq Ywv .ret) .skip))) Yww)
def X2h:List MO:=[Qa (Qv 4) (Qd (Qo (Qp (Qq (Qs true)))))]
def Ywy:MC:=.r0 X2h
def Ywz:MC:=.seq (.seq Wfy (.cond (Qn 10) (.seq Wfz .ret) .skip)) (.seq (.seq Wf0 (.blk 0 (.loop Ywx))) (.seq Ywy .ret))
def X2i:MC:=.seq Wfx Ywz
attribute [go_sem] Yo3 Yo4 Yo5 Yo6 Yo7 X2e X2f X2g X2h
theorem Wsg:KK QP 20 f20 [] X2i [(RV.t 4)] 26:=by refine⟨func20,?_,?_,?_,?_⟩<;>kernel_rfl
theorem Wf2:Xaa QP 20=true:=by kernel_rfl
theorem Wf3 (h:GI QP gp [(RV.t 4)] res 26 X2i args):Xam QP gp 20 args res:=Wsg.i Wf2 h
def Xbn:List MO:=[Qa (Qv 2) (MOp.ibox (Qn 0)),Qa (Qv 4) (Qd (Qo (Qp A.nil))),Qa (Qv 5) (Qd (Qo (Qp (Qq (Qr Qu 0)))))]
def Wf4:MC:=.r0 Xbn
def Xbo:List MO:=[Qa (Qv 12) (Qf 2 true (Qn 2)),Qa (Qv 13) (Qd (Qn 1)),Qa (Qv 14) (Qh 49 [(Qn 12),(Qn 13)]),Qa (Qv 11) (Qd (Qn 14)),Qa (Qv 15) (Qi (Qn 11) 0),Qa (Qv 16) (Qi (Qn 11) 1),Qa (Qv 6) (MOp.alloc [(Qr Qu 0),(Qr Qu 0),(Qr Qu 0),(D.str (ByteArray.mk #[])),(D.sl []),(D.sl []),(Qr Qu 0)]),Qa none (Ql 7 (Qn 6) (Qn 15)),Qa (Qv 7) (Qd (Qn 16))]
def Wf5:MC:=.r0 Xbo
def Xbp:List MO:=[Qa (Qv 17) (Qd (Qn 7)),Qa (Qv 18) (Qe Qt Go.BinOp.eql (Qn 17) (Qo (Qp (Qq (Qr Qu 0))))),Qa (Qv 19) (Qd (Qn 18)),Qb 19 true (Qv 20),Qa (Qv 20) (Qg 0 (Qn 6)),Qb 19 true (Qv 21),Qa (Qv 21) (Qg 0 (Qn 20)),Qb 19 true (Qv 22),Qa (Qv 22) (Qf 1 false (Qn 21)),Qb 19 true (Qv 23),Qa (Qv 23) (Qe Qt Go.BinOp.eql (Qn 22) (Qo (Qp (Qq (Qr Qu 1))))),Qa (Qv 24) (Qm (Qn 19) (Qn 23) (Qo (Qp (Qq (Qs false)))))]
def Wf6:MC:=.r0 Xbp
def Xbq:List MO:=[Qa (Qv 25) (Qg 0 (Qn 6)),Qa (Qv 26) (Qg 5 (Qn 25)),Qa (Qv 27) (Qf 1 false (Qn 26)),Qa (Qv 28) (Qh 44 [(Qn 27)]),Qa (Qv 29) (Qd (Qn 7)),Qa (Qv 4) (Qd (Qn 28)),Qa (Qv 5) (Qd (Qn 29))]
def Wf7:MC:=.r0 Xbq
def Xbr:List MO:=[Qa (Qv 8) (Qd (Qo (Qp A.nil)))]
def Wf8:MC:=.r0 Xbr
def Xa3:List MO:=[Qa (Qv 30) (Qf 7 true (Qn 6)),Qa (Qv 31) (Qh 50 [(Qn 30)]),Qa (Qv 32) (Qk Qt (Qn 31)),Qa (Qv 33) (Qd (Qo (Qp (Qq (Qr Qu 0)))))]
def Yw0:MC:=.r0 Xa3
def Xaz:List MO:=[Qa (Qv 34) (Qe Qt Go.BinOp.lss (Qn 33) (Qn 32))]
def Yw1:MC:=.r0 Xaz
def Xa4:List MO:=[Qa (Qv 35) (Qj 4 (Qn 31) (Qn 33)),Qa (Qv 36) (Qf 4 true (Qn 35)),Qa (Qv 10) (MOp.alloc [(Qr Qu 0),(Qr Qu 0),(D.str (ByteArray.mk #[])),(Qr Qu 0)]),Qa none (Ql 4 (Qn 10) (Qn 36))]
def Yw2:MC:=.r0 Xa4
def Xa5:List MO:=[Qa (Qv 37) (Qd (Qn 8)),Qa (Qv 38) (Qg 3 (Qn 10)),Qa (Qv 39) (Qf 1 false (Qn 38)),Qa (Qv 40) (MOp.bslice 1 [(Qr Qu 0)] 1 [(0,(Qn 39))]),Qa (Qv 41) (MOp.app 3 1 8 (Qn 37) (Qn 40)),Qa (Qv 8) (Qd (Qn 41))]
def Yw3:MC:=.r0 Xa5
def Xa6:List MO:=[Qa (Qv 42) (Qe Qt Go.BinOp.add (Qn 33) (Qo (Qp (Qq (Qr Qu 1))))),Qa (Qv 33) (Qd (Qn 42))]
def Yw4:MC:=.r0 Xa6
def Yw5:MC:=.seq Yw1 (.seq (.cond (Qn 34) .skip (MC.exit 0)) (.seq (.blk 1 (.seq Yw2 Yw3)) Yw4))
def Xa7:List MO:=[Qa (Qv 43) (Qd (Qn 8)),Qa (Qv 44) (Qd (Qn 7)),Qa (Qv 4) (Qd (Qn 43)),Qa (Qv 5) (Qd (Qn 44))]
def Yw6:MC:=.r0 Xa7
def Yw7:MC:=.seq Wf8 (.seq (.seq Yw0 (.blk 0 (.loop Yw5))) (.seq Yw6 .ret))
def Yw8:MC:=.seq Wf5 (.seq (.seq Wf6 (.cond (Qn 24) (.seq Wf7 .ret) .skip)) Yw7)
def Xst:MC:=.seq Wf4 Yw8
theorem Wf9:KK QP 21 f21 [2] Xst [(RV.t 4),(RV.t 5)] 45:=by refine⟨func21,?_,?_,?_,?_⟩<;>kernel_rfl
theorem Yo8:Xaa QP 21=true:=by kernel_rfl
theorem Wga (h:GI QP gp [(RV.t 4),(RV.t 5)] res 45 Xst args):Xam QP gp 21 args res:=Wf9.i Yo8 h
theorem Yw9 (h:GT QP gp [(RV.t 4),(RV.t 5)] pre R 45 Xst args):Tri QP gp 21 args pre R:=Wf9.t h
def Yo9:List MO:=[Qa (Qv 1) (MOp.ibox (Qn 0)),Qa (Qv 2) (MOp.alloc [(Qr Qu 0),(D.sl [])])]
def Wgb:MC:=.r0 Yo9
def Ypa:List MO:=[Qa (Qv 9) (Qg 0 (Qn 1)),Qa (Qv 10) (Qf 1 false (Qn 9)),Qa (Qv 11) (MOp.build [(Qr Qu 0),(D.sl [])] [(0,(1,(Qn 10)))]),Qa (Qv 3) (MOp.alloc [(Qr Qu 0),(D.sl [])]),Qa none (Ql 2 (Qn 3) (Qn 11))]
def Wgc:MC:=.r0 Ypa
def Ypb:List MO:=[Qa (Qv 4) (Qd (Qo (Qp (Qq (Qr Qu 0)))))]
def Wgd:MC:=.r0 Ypb
def Ypc:List MO:=[Qa (Qv 12) (Qd (Qn 4)),Qa (Qv 13) (Qg 1 (Qn 1)),Qa (Qv 14) (Qf 1 false (Qn 13)),Qa (Qv 15) (Qk Qt (Qn 14)),Qa (Qv 16) (Qe Qt Go.BinOp.lss (Qn 12) (Qn 15)),Qa (Qv 17) (Qd (Qn 16)),Qb 17 true (Qv 18),Qa (Qv 18) (Qd (Qn 4)),Qb 17 true (Qv 19),Qa (Qv 19) (Qe Qt Go.BinOp.lss (Qn 18) (Qo (Qp (Qq (Qr Qu 201))))),Qa (Qv 20) (Qm (Qn 17) (Qn 19) (Qo (Qp (Qq (Qs false)))))]
def Wge:MC:=.r0 Ypc
def Ypd:List MO:=[Qa (Qv 23) (Qg 1 (Qn 1)),Qa (Qv 24) (Qf 1 false (Qn 23)),Qa (Qv 25) (Qd (Qn 4)),Qa (Qv 26) (Qj 6 (Qn 24) (Qn 25)),Qa (Qv 27) (Qf 6 true (Qn 26)),Qa (Qv 5) (MOp.alloc [(Qr Qu 0),(Qr Qu 0),(Qr Qu 0),(D.str (ByteArray.mk #[])),(D.sl []),(D.sl [])]),Qa none (Ql 6 (Qn 5) (Qn 27))]
def Wgf:MC:=.r0 Ypd
def Ype:List MO:=[Qa (Qv 28) (Qg 0 (Qn 5)),Qa (Qv 29) (Qf 1 false (Qn 28)),Qa (Qv 30) (Qg 1 (Qn 5)),Qa (Qv 31) (Qf 3 true (Qn 30)),Qa (Qv 32) (Qh 68 [(Qn 31)]),Qa (Qv 33) (MOp.build [(Qr Qu 0),(Qr Qu 0),(Qr Qu 0),(D.str (ByteArray.mk #[])),(D.sl []),(D.sl [])] [(0,(1,(Qn 29))),(1,(3,(Qn 32)))]),Qa (Qv 6) (MOp.alloc [(Qr Qu 0),(Qr Qu 0),(Qr Qu 0),(D.str (ByteArray.mk #[])),(D.sl []),(D.sl [])]),Qa none (Ql 6 (Qn 6) (Qn 33))]
def Wgg:MC:=.reg true Ype
def X2j:List MO:=[Qa (Qv 7) (Qd (Qo (Qp (Qq (Qr Qu 0)))))]
def Yxa:MC:=.r0 X2j
def X2k:List MO:=[Qa (Qv 34) (Qd (Qn 7)),Qa (Qv 35) (Qg 4 (Qn 5)),Qa (Qv 36) (Qf 1 false (Qn 35)),Qa (Qv 37) (Qk Qt (Qn 36)),Qa (Qv 38) (Qe Qt Go.BinOp.lss (Qn 34) (Qn 37)),Qa (Qv 39) (Qd (Qn 38)),Qb 39 true (Qv 40),Qa (Qv 40) (Qd (Qn 7)),Qb 39 true (Qv 41),Qa (Qv 41) (Qe Qt Go.BinOp.lss (Qn 40) (Qo (Qp (Qq (Qr Qu 12))))),Qa (Qv 42) (Qm (Qn 39) (Qn 41) (Qo (Qp (Qq (Qs false)))))]
def Yxb:MC:=.r0 X2k
def X2l:List MO:=[Qa (Qv 45) (Qg 4 (Qn 6)),Qa (Qv 46) (Qf 1 false (Qn 45)),Qa (Qv 47) (Qg 4 (Qn 5)),Qa (Qv 48) (Qf 1 false (Qn 47)),Qa (Qv 49) (Qd (Qn 7)),Qa (Qv 50) (Qj 3 (Qn 48) (Qn 49)),Qa (Qv 51) (Qf 3 true (Qn 50)),Qa (Qv 52) (Qh 68 [(Qn 51)]),Qa (Qv 53) (MOp.bslice 3 [(Qr Qu 0),(Qr Qu 0),(D.str (ByteArray.mk #[]))] 1 [(0,(Qn 52))]),Qa (Qv 54) (MOp.app 41 3 32 (Qn 46) (Qn 53)),Qa (Qv 55) (Qg 4 (Qn 6)),Qa none (Ql 1 (Qn 55) (Qn 54))]
def Yxc:MC:=.reg true X2l
def X2m:List MO:=[Qa (Qv 43) (Qd (Qn 7)),Qa (Qv 44) (Qe Qt Go.BinOp.add (Qn 43) (Qo (Qp (Qq (Qr Qu 1))))),Qa (Qv 7) (Qd (Qn 44))]
def Yxd:MC:=.r0 X2m
def Yxe:MC:=.seq Yxa (.blk 2 (.loop (.seq (.seq Yxb (.cond (Qn 42) .skip (MC.exit 2))) (.seq (.blk 3 Yxc) Yxd))))
def X2n:List MO:=[Qa (Qv 8) (Qd (Qo (Qp (Qq (Qr Qu 0)))))]
def Yxf:MC:=.r0 X2n
def X2o:List MO:=[Qa (Qv 56) (Qd (Qn 8)),Qa (Qv 57) (Qg 5 (Qn 5)),Qa (Qv 58) (Qf 1 false (Qn 57)),Qa (Qv 59) (Qk Qt (Qn 58)),Qa (Qv 60) (Qe Qt Go.BinOp.lss (Qn 56) (Qn 59)),Qa (Qv 61) (Qd (Qn 60)),Qb 61 true (Qv 62),Qa (Qv 62) (Qd (Qn 8)),Qb 61 true (Qv 63),Qa (Qv 63) (Qe Qt Go.BinOp.lss (Qn 62) (Qo (Qp (Qq (Qr Qu 12))))),Qa (Qv 64) (Qm (Qn 61) (Qn 63) (Qo (Qp (Qq (Qs false)))))]
def Yxg:MC:=.r0 X2o
def X2p:List MO:=[Qa (Qv 67) (Qg 5 (Qn 6)),Qa (Qv 68) (Qf 1 false (Qn 67)),Qa (Qv 69) (Qg 5 (Qn 5)),Qa (Qv 70) (Qf 1 false (Qn 69)),Qa (Qv 71) (Qd (Qn 8)),Qa (Qv 72) (Qj 1 (Qn 70) (Qn 71)),Qa (Qv 73) (Qf 1 false (Qn 72)),Qa (Qv 74) (MOp.bslice 1 [(Qr Qu 0)] 1 [(0,(Qn 73))]),Qa (Qv 75) (MOp.app 3 1 8 (Qn 68) (Qn 74)),Qa (Qv 76) (Qg 5 (Qn 6)),Qa none (Ql 1 (Qn 76) (Qn 75))]
def Yxh:MC:=.reg true X2p
def X2q:List MO:=[Qa (Qv 65) (Qd (Qn 8)),Qa (Qv 66) (Qe Qt Go.BinOp.add (Qn 65) (Qo (Qp (Qq (Qr Qu 1))))),Qa (Qv 8) (Qd (Qn 66))]
def Yxi:MC:=.r0 X2q
def Yxj:MC:=.seq Yxf (.blk 4 (.loop (.seq (.seq Yxg (.cond (Qn 64) .skip (MC.exit 4))) (.seq (.blk 5 Yxh) Yxi))))
def X2r:List MO:=[Qa (Qv 77) (Qg 1 (Qn 3)),Qa (Qv 78) (Qf 1 false (Qn 77)),Qa (Qv 79) (Qf 6 true (Qn 6)),Qa (Qv 80) (MOp.bslice 6 [(Qr Qu 0),(Qr Qu 0),(Qr Qu 0),(D.str (ByteArray.mk #[])),(D.sl []),(D.sl [])] 1 [(0,(Qn 79))]),Qa (Qv 81) (MOp.app 44 6 88 (Qn 78) (Qn 80)),Qa (Qv 82) (Qg 1 (Qn 3)),Qa none (Ql 1 (Qn 82) (Qn 81))]
def Yxk:MC:=.r0 X2r
def Yxl:MC:=.seq Wgg (.seq Yxe (.seq Yxj Yxk))
def X2s:List MO:=[Qa (Qv 21) (Qd (Qn 4)),Qa (Qv 22) (Qe Qt Go.BinOp.add (Qn 21) (Qo (Qp (Qq (Qr Qu 1))))),Qa (Qv 4) (Qd (Qn 22))]
def Yxm:MC:=.r0 X2s
def Yxn:MC:=.seq (.seq Wge (.cond (Qn 20) .skip (MC.exit 0))) (.seq (.blk 1 (.seq Wgf Yxl)) Yxm)
def X2t:List MO:=[Qa (Qv 83) (Qf 2 true (Qn 3)),Qa none (Ql 2 (Qn 2) (Qn 83))]
def Yxo:MC:=.r0 X2t
def Yxp:MC:=.seq Wgc (.seq (.seq Wgd (.blk 0 (.loop Yxn))) (.seq Yxo .ret))
def X2u:MC:=.seq Wgb Yxp
attribute [go_sem] Yo9 Ypa Ypb Ypc Ypd Ype X2j X2k X2l X2m X2n X2o X2p X2q X2r X2s X2t
theorem Wsh:KK QP 35 f35 [1] X2u [(RV.cell 2 2 true)] 84:=by refine⟨func35,?_,?_,?_,?_⟩<;>kernel_rfl
theorem Wgh:Xaa QP 35=true:=by kernel_rfl
theorem Wgi (h:GI QP gp [(RV.cell 2 2 true)] res 84 X2u args):Xam QP gp 35 args res:=Wsh.i Wgh h
def Ypf:List MO:=[Qa (Qv 1) (MOp.ibox (Qn 0)),Qa (Qv 2) (Qd (Qo (Qp (Qq (Qr Qu 0))))),Qa (Qv 3) (Qd (Qo (Qp (Qq (Qr Qu 0)))))]
def Wgj:MC:=.r0 Ypf
def Ypg:List MO:=[Qa (Qv 4) (Qf 2 true (Qn 1)),Qa (Qv 5) (Qh 70 [(Qn 4)]),Qa (Qv 6) (Qh 69 [(Qn 5)]),Qa (Qv 7) (Qi (Qn 6) 0),Qa (Qv 8) (Qi (Qn 6) 1),Qa (Qv 2) (Qd (Qn 7)),Qa (Qv 3) (Qd (Qn 8))]
def Wgk:MC:=.r0 Ypg
def Yph:MC:=.seq Wgj (.seq Wgk .ret)
attribute [go_sem] Ypf Ypg
theorem Wsi:KK QP 36 f36 [1] Yph [(RV.t 2),(RV.t 3)] 9:=by refine⟨func36,?_,?_,?_,?_⟩<;>kernel_rfl
theorem Wgl:Xaa QP 36=true:=by kernel_rfl
theorem Wgm (h:GI QP gp [(RV.t 2),(RV.t 3)] res 9 Yph args):Xam QP gp 36 args res:=Wsi.i Wgl h
def Ypi:List MO:=[Qa (Qv 1) (MOp.ibox (Qn 0)),Qa (Qv 2) (Qd (Qo (Qp (Qq (Qr Qu 0))))),Qa (Qv 3) (Qd (Qo (Qp (Qq (Qr Qu 0)))))]
def Wgn:MC:=.r0 Ypi
def Ypj:List MO:=[Qa (Qv 5) (Qg 1 (Qn 1)),Qa (Qv 6) (Qf 1 false (Qn 5)),Qa (Qv 7) (Qk Qt (Qn 6)),Qa (Qv 8) (Qe Qt Go.BinOp.gtr (Qn 7) (Qo (Qp (Qq (Qr Qu 200)))))]
def Wgo:MC:=.r0 Ypj
def Ypk:List MO:=[Qa (Qv 2) (Qd (Qo (Qp (Qq (Qr Qu 0))))),Qa (Qv 3) (Qd (Qo (Qp (Qq (Qr Qu 71)))))]
def Wgp:MC:=.r0 Ypk
def Ypl:List MO:=[Qa (Qv 9) (Qg 0 (Qn 1)),Qa (Qv 10) (Qf 1 false (Qn 9)),Qa (Qv 11) (Qe Qt Go.BinOp.lss (Qn 10) (Qo (Qp (Qq (Qr Qu 0))))),Qa (Qv 12) (Qd (Qn 11)),Qb 12 false (Qv 13),Qa (Qv 13) (Qg 0 (Qn 1)),Qb 12 false (Qv 14),Qa (Qv 14) (Qf 1 false (Qn 13)),Qb 12 false (Qv 15),Qa (Qv 15) (Qg 1 (Qn 1)),Qb 12 false (Qv 16),Qa (Qv 16) (Qf 1 false (Qn 15)),Qb 12 false (Qv 17),Qa (Qv 17) (Qk Qt (Qn 16)),Qb 12 false (Qv 18),Qa (Qv 18) (Qe Qt Go.BinOp.geq (Qn 14) (Qn 17)),Qa (Qv 19) (Qm (Qn 12) (Qo (Qp (Qq (Qs true)))) (Qn 18))]
def Wgq:MC:=.r0 Ypl
def Ypm:List MO:=[Qa (Qv 2) (Qd (Qo (Qp (Qq (Qr Qu (-1)))))),Qa (Qv 3) (Qd (Qo (Qp (Qq (Qr Qu 70)))))]
def Wgr:MC:=.r0 Ypm
def X2v:List MO:=[Qa (Qv 4) (Qd (Qo (Qp (Qq (Qr Qu 0)))))]
def Yxq:MC:=.r0 X2v
def X2w:List MO:=[Qa (Qv 20) (Qd (Qn 4)),Qa (Qv 21) (Qg 1 (Qn 1)),Qa (Qv 22) (Qf 1 false (Qn 21)),Qa (Qv 23) (Qk Qt (Qn 22)),Qa (Qv 24) (Qe Qt Go.BinOp.lss (Qn 20) (Qn 23))]
def Yxr:MC:=.r0 X2w
def X2x:List MO:=[Qa (Qv 27) (Qg 1 (Qn 1)),Qa (Qv 28) (Qf 1 false (Qn 27)),Qa (Qv 29) (Qd (Qn 4)),Qa (Qv 30) (Qj 6 (Qn 28) (Qn 29)),Qa (Qv 31) (Qf 6 true (Qn 30)),Qa (Qv 32) (Qg 1 (Qn 1)),Qa (Qv 33) (Qf 1 false (Qn 32)),Qa (Qv 34) (Qk Qt (Qn 33)),Qc (Qv 35) (Qh 72 [(Qn 31),(Qn 34)]),Qa (Qv 36) (MOp.not (Qn 35))]
def Yxs:MC:=.reg true X2x
def X2y:List MO:=[Qa (Qv 37) (Qd (Qn 4)),Qa (Qv 2) (Qd (Qn 37)),Qa (Qv 3) (Qd (Qo (Qp (Qq (Qr Qu 70)))))]
def Yxt:MC:=.r0 X2y
def X2z:List MO:=[Qa (Qv 25) (Qd (Qn 4)),Qa (Qv 26) (Qe Qt Go.BinOp.add (Qn 25) (Qo (Qp (Qq (Qr Qu 1))))),Qa (Qv 4) (Qd (Qn 26))]
def Yxu:MC:=.r0 X2z
def Yxv:MC:=.seq (.seq Yxr (.cond (Qn 24) .skip (MC.exit 0))) (.seq (.blk 1 (.seq Yxs (.cond (Qn 36) (.seq Yxt .ret) .skip))) Yxu)
def X20:List MO:=[Qa (Qv 2) (Qd (Qo (Qp (Qq (Qr Qu 0))))),Qa (Qv 3) (Qd (Qo (Qp (Qq (Qr Qu 0)))))]
def Yxw:MC:=.r0 X20
def Yxx:MC:=.seq (.seq Wgq (.cond (Qn 19) (.seq Wgr .ret) .skip)) (.seq (.seq Yxq (.blk 0 (.loop Yxv))) (.seq Yxw .ret))
def X21:MC:=.seq Wgn (.seq (.seq Wgo (.cond (Qn 8) (.seq Wgp .ret) .skip)) Yxx)
attribute [go_sem] Ypi Ypj Ypk Ypl Ypm X2v X2w X2x X2y X2z X20
theorem Wsj:KK QP 39 f39 [1] X21 [(RV.t 2),(RV.t 3)] 38:=by refine⟨func39,?_,?_,?_,?_⟩<;>kernel_rfl
theorem Wgs:Xaa QP 39=true:=by kernel_rfl
theorem Wgt (h:GI QP gp [(RV.t 2),(RV.t 3)] res 38 X21 args):Xam QP gp 39 args res:=Wsj.i Wgs h
def Xbz:List MO:=[Qa (Qv 2) (Qd (Qo (Qp A.nil)))]
def Wgu:MC:=.r0 Xbz
def Xb0:List MO:=[Qa (Qv 3) (Qd (Qn 0)),Qa (Qv 4) (MOp.nilq NK.sl false (Qn 3))]
def Wgv:MC:=.r0 Xb0
def Xcr:List MO:=[Qa (Qv 2) (Qd (Qo (Qp A.nil)))]
def Wgw:MC:=.r0 Xcr
def Xcw:List MO:=[Qa (Qv 5) (MOp.bslO 1 [(Qr Qu 0)] 0 []),Qa (Qv 6) (Qd (Qn 0)),Qa (Qv 7) (MOp.app 3 1 8 (Qn 5) (Qn 6)),Qa (Qv 2) (Qd (Qn 7))]
def Wgx:MC:=.r0 Xcw
def Xsu:MC:=.seq Wgu (.seq (.seq Wgv (.cond (Qn 4) (.seq Wgw .ret) .skip)) (.seq Wgx .ret))
theorem Wgy:KK QP 44 f44 [5] Xsu [(RV.t 2)] 8:=by refine⟨func44,?_,?_,?_,?_⟩<;>kernel_rfl
theorem Xup:Xaa QP 44=true:=by kernel_rfl
theorem Wgz (h:GI QP gp [(RV.t 2)] res 8 Xsu args):Xam QP gp 44 args res:=Wgy.i Xup h
theorem Yxy (h:GT QP gp [(RV.t 2)] pre R 8 Xsu args):Tri QP gp 44 args pre R:=Wgy.t h
def Ypn:List MO:=[Qa (Qv 1) (MOp.ibox (Qn 0)),Qa (Qv 2) (Qd (Qo (Qp (Qq (Qs false)))))]
def Wg0:MC:=.r0 Ypn
def Ypo:List MO:=[Qa (Qv 6) (Qf 2 true (Qn 1)),Qa (Qv 7) (Qh 39 [(Qn 6)]),Qa (Qv 5) (Qd (Qn 7)),Qa (Qv 8) (Qi (Qn 5) 0),Qa (Qv 9) (Qi (Qn 5) 1),Qa (Qv 3) (Qd (Qn 8)),Qa (Qv 4) (Qd (Qn 9))]
def Wg1:MC:=.r0 Ypo
def Ypp:List MO:=[Qa (Qv 10) (Qd (Qn 4)),Qa (Qv 11) (Qe Qt Go.BinOp.eql (Qn 10) (Qo (Qp (Qq (Qr Qu 0))))),Qa (Qv 2) (Qd (Qn 11))]
def Wg2:MC:=.r0 Ypp
def Ypq:MC:=.seq Wg0 (.seq Wg1 (.seq Wg2 .ret))
attribute [go_sem] Ypn Ypo Ypp
theorem Wsk:KK QP 46 f46 [1] Ypq [(RV.t 2)] 12:=by refine⟨func46,?_,?_,?_,?_⟩<;>kernel_rfl
theorem Wg3:Xaa QP 46=true:=by kernel_rfl
theorem Wg4 (h:GI QP gp [(RV.t 2)] res 12 Ypq args):Xam QP gp 46 args res:=Wsk.i Wg3 h
def Xdg:List MO:=[Qa (Qv 2) (MOp.ibox (Qn 0)),Qa (Qv 4) (Qd (Qo (Qp A.nil))),Qa (Qv 5) (Qd (Qo (Qp (Qq (Qr Qu 0)))))]
def Wg5:MC:=.r0 Xdg
def Xdh:List MO:=[Qa (Qv 10) (Qd (Qn 1)),Qa (Qv 11) (Qe Qt Go.BinOp.lss (Qn 10) (Qo (Qp (Qq (Qr Qu 0))))),Qa (Qv 12) (Qd (Qn 11)),Qb 12 false (Qv 13),Qa (Qv 13) (Qd (Qn 1)),Qb 12 false (Qv 14),Qa (Qv 14) (Qg 1 (Qn 2)),Qb 12 false (Qv 15),Qa (Qv 15) (Qf 1 false (Qn 14)),Qb 12 false (Qv 16),Qa (Qv 16) (Qk Qt (Qn 15)),Qb 12 false (Qv 17),Qa (Qv 17) (Qe Qt Go.BinOp.geq (Qn 13) (Qn 16)),Qa (Qv 18) (Qm (Qn 12) (Qo (Qp (Qq (Qs true)))) (Qn 17))]
def Wg6:MC:=.r0 Xdh
def Xdi:List MO:=[Qa (Qv 4) (Qd (Qo (Qp A.nil))),Qa (Qv 5) (Qd (Qo (Qp (Qq (Qr Qu 2)))))]
def Wg7:MC:=.r0 Xdi
def Xdj:List MO:=[Qa (Qv 19) (Qg 1 (Qn 2)),Qa (Qv 20) (Qf 1 false (Qn 19)),Qa (Qv 21) (Qd (Qn 1)),Qa (Qv 22) (Qj 6 (Qn 20) (Qn 21)),Qa (Qv 23) (Qf 6 true (Qn 22)),Qa (Qv 6) (MOp.alloc [(Qr Qu 0),(Qr Qu 0),(Qr Qu 0),(D.str (ByteArray.mk #[])),(D.sl []),(D.sl [])]),Qa none (Ql 6 (Qn 6) (Qn 23))]
def Wg8:MC:=.r0 Xdj
def Xdk:List MO:=[Qa (Qv 7) (Qd (Qo (Qp A.nil)))]
def Wg9:MC:=.r0 Xdk
def Xb5:List MO:=[Qa (Qv 24) (Qg 0 (Qn 6)),Qa (Qv 25) (Qf 1 false (Qn 24)),Qa (Qv 26) (Qe Qt Go.BinOp.eql (Qn 25) (Qo (Qp (Qq (Qr Qu 1)))))]
def Yxz:MC:=.r0 Xb5
def Xcl:List MO:=[Qa (Qv 27) (Qd (Qn 7)),Qa (Qv 28) (Qg 5 (Qn 6)),Qa (Qv 29) (Qf 1 false (Qn 28)),Qa (Qv 30) (MOp.app 3 1 8 (Qn 27) (Qn 29)),Qa (Qv 4) (Qd (Qn 30)),Qa (Qv 5) (Qd (Qo (Qp (Qq (Qr Qu 0)))))]
def Yx0:MC:=.r0 Xcl
def Xb6:List MO:=[Qa (Qv 31) (Qf 6 true (Qn 6)),Qa (Qv 32) (Qh 76 [(Qn 31)])]
def Yx1:MC:=.r0 Xb6
def Xb7:List MO:=[Qa (Qv 33) (Qf 6 true (Qn 6)),Qa (Qv 34) (Qh 77 [(Qn 33)]),Qa (Qv 8) (Qd (Qn 34))]
def Yx2:MC:=.r0 Xb7
def Xb8:List MO:=[Qa (Qv 9) (Qd (Qo (Qp (Qq (Qr Qu 0)))))]
def Yx3:MC:=.r0 Xb8
def Xb9:List MO:=[Qa (Qv 35) (Qd (Qn 9)),Qa (Qv 36) (Qd (Qn 8)),Qa (Qv 37) (Qk Qt (Qn 36)),Qa (Qv 38) (Qe Qt Go.BinOp.lss (Qn 35) (Qn 37))]
def Yx4:MC:=.r0 Xb9
def Xca:List MO:=[Qa (Qv 41) (Qd (Qn 7)),Qa (Qv 42) (Qg 5 (Qn 6)),Qa (Qv 43) (Qf 1 false (Qn 42)),Qa (Qv 44) (Qd (Qn 8)),Qa (Qv 45) (Qd (Qn 9)),Qa (Qv 46) (Qj 1 (Qn 44) (Qn 45)),Qa (Qv 47) (Qf 1 false (Qn 46)),Qa (Qv 48) (Qj 1 (Qn 43) (Qn 47)),Qa (Qv 49) (Qf 1 false (Qn 48)),Qa (Qv 50) (MOp.bslice 1 [(Qr Qu 0)] 1 [(0,(Qn 49))]),Qa (Qv 51) (MOp.app 3 1 8 (Qn 41) (Qn 50)),Qa (Qv 7) (Qd (Qn 51))]
def Yx5:MC:=.reg true Xca
def Xcb:List MO:=[Qa (Qv 39) (Qd (Qn 9)),Qa (Qv 40) (Qe Qt Go.BinOp.add (Qn 39) (Qo (Qp (Qq (Qr Qu 1))))),Qa (Qv 9) (Qd (Qn 40))]
def Yx6:MC:=.r0 Xcb
def Yx7:MC:=.seq Yx3 (.blk 0 (.loop (.seq (.seq Yx4 (.cond (Qn 38) .skip (MC.exit 0))) (.seq (.blk 1 Yx5) Yx6))))
def Xco:List MO:=[Qa (Qv 52) (Qd (Qn 7)),Qa (Qv 4) (Qd (Qn 52)),Qa (Qv 5) (Qd (Qo (Qp (Qq (Qr Qu 0)))))]
def Yx8:MC:=.r0 Xco
def Yx9:MC:=.seq (.seq Yx1 (.cond (Qn 32) (.seq Yx2 Yx7) .skip)) (.seq Yx8 .ret)
def Yya:MC:=.seq Wg9 (.seq (.seq Yxz (.cond (Qn 26) (.seq Yx0 .ret) .skip)) Yx9)
def Yyb:MC:=.seq (.seq Wg6 (.cond (Qn 18) (.seq Wg7 .ret) .skip)) (.seq Wg8 Yya)
def X22:MC:=.seq Wg5 Yyb
theorem Wsl:KK QP 47 f47 [2] X22 [(RV.t 4),(RV.t 5)] 53:=by refine⟨func47,?_,?_,?_,?_⟩<;>kernel_rfl
theorem Wha:Xaa QP 47=true:=by kernel_rfl
theorem Whb (h:GI QP gp [(RV.t 4),(RV.t 5)] res 53 X22 args):Xam QP gp 47 args res:=Wsl.i Wha h
def Ypr:List MO:=[Qa (Qv 2) (MOp.ibox (Qn 0)),Qa (Qv 4) (MOp.alloc [(Qr Qu 0),(Qr Qu 0),(Qr Qu 0),(D.str (ByteArray.mk #[])),(D.sl []),(D.sl []),(Qr Qu 0)]),Qa (Qv 5) (Qd (Qo (Qp (Qq (Qr Qu 0)))))]
def Whc:MC:=.r0 Ypr
def Yps:List MO:=[Qa (Qv 6) (Qf 2 true (Qn 2)),Qa (Qv 7) (Qd (Qn 1)),Qa (Qv 8) (Qh 78 [(Qn 6),(Qn 7)]),Qa (Qv 9) (MOp.not (Qn 8))]
def Whd:MC:=.r0 Yps
def Ypt:List MO:=[Qa (Qv 10) (MOp.build [(Qr Qu 0),(Qr Qu 0),(Qr Qu 0),(D.str (ByteArray.mk #[])),(D.sl []),(D.sl []),(Qr Qu 0)] []),Qa none (Ql 7 (Qn 4) (Qn 10)),Qa (Qv 5) (Qd (Qo (Qp (Qq (Qr Qu 2)))))]
def Whe:MC:=.r0 Ypt
def Ypu:List MO:=[Qa (Qv 11) (Qg 1 (Qn 2)),Qa (Qv 12) (Qf 1 false (Qn 11)),Qa (Qv 13) (Qd (Qn 1)),Qa (Qv 14) (Qj 6 (Qn 12) (Qn 13)),Qa (Qv 15) (Qf 6 true (Qn 14)),Qa (Qv 16) (Qg 1 (Qn 2)),Qa (Qv 17) (Qf 1 false (Qn 16)),Qa (Qv 18) (Qk Qt (Qn 17)),Qa (Qv 19) (MOp.build [(Qr Qu 0),(Qr Qu 0),(Qr Qu 0),(D.str (ByteArray.mk #[])),(D.sl []),(D.sl []),(Qr Qu 0)] [(0,(6,(Qn 15))),(6,(1,(Qn 18)))]),Qa none (Ql 7 (Qn 4) (Qn 19)),Qa (Qv 5) (Qd (Qo (Qp (Qq (Qr Qu 0)))))]
def Whf:MC:=.reg true Ypu
def X23:MC:=.seq Whc (.seq (.seq Whd (.cond (Qn 9) (.seq Whe .ret) .skip)) (.seq Whf .ret))
attribute [go_sem] Ypr Yps Ypt Ypu
theorem Wsm:KK QP 49 f49 [2] X23 [(RV.cell 4 7 true),(RV.t 5)] 20:=by refine⟨func49,?_,?_,?_,?_⟩<;>kernel_rfl
theorem Whg:Xaa QP 49=true:=by kernel_rfl
theorem Whh (h:GI QP gp [(RV.cell 4 7 true),(RV.t 5)] res 20 X23 args):Xam QP gp 49 args res:=Wsm.i Whg h
def Ypv:List MO:=[Qa (Qv 1) (MOp.ibox (Qn 0)),Qa (Qv 2) (Qd (Qo (Qp A.nil)))]
def Whi:MC:=.r0 Ypv
def Ypw:List MO:=[Qa (Qv 6) (Qg 0 (Qn 1)),Qa (Qv 7) (Qg 0 (Qn 6)),Qa (Qv 8) (Qf 1 false (Qn 7)),Qa (Qv 9) (Qe Qt Go.BinOp.neq (Qn 8) (Qo (Qp (Qq (Qr Qu 2))))),Qa (Qv 10) (Qd (Qn 9)),Qb 10 false (Qv 11),Qa (Qv 11) (Qf 7 true (Qn 1)),Qb 10 false (Qv 12),Qa (Qv 12) (Qh 79 [(Qn 11)]),Qb 10 false (Qv 13),Qa (Qv 13) (MOp.not (Qn 12)),Qa (Qv 14) (Qm (Qn 10) (Qo (Qp (Qq (Qs true)))) (Qn 13))]
def Whj:MC:=.r0 Ypw
def Ypx:List MO:=[Qa (Qv 2) (Qd (Qo (Qp A.nil)))]
def Whk:MC:=.r0 Ypx
def Ypy:List MO:=[Qa (Qv 3) (Qd (Qo (Qp A.nil)))]
def Whl:MC:=.r0 Ypy
def Ypz:List MO:=[Qa (Qv 15) (Qg 0 (Qn 1)),Qa (Qv 16) (Qg 4 (Qn 15)),Qa (Qv 17) (Qf 1 false (Qn 16)),Qa (Qv 18) (Qk Qt (Qn 17)),Qa (Qv 19) (Qd (Qo (Qp (Qq (Qr Qu 0)))))]
def Whm:MC:=.r0 Ypz
def X24:List MO:=[Qa (Qv 20) (Qe Qt Go.BinOp.lss (Qn 19) (Qn 18))]
def Yyc:MC:=.r0 X24
def X25:List MO:=[Qa (Qv 21) (Qd (Qn 19)),Qa (Qv 22) (Qj 3 (Qn 17) (Qn 19)),Qa (Qv 23) (Qf 3 true (Qn 22)),Qa (Qv 5) (MOp.alloc [(Qr Qu 0),(Qr Qu 0),(D.str (ByteArray.mk #[]))]),Qa (Qv 4) (Qd (Qn 21)),Qa none (Ql 3 (Qn 5) (Qn 23))]
def Yyd:MC:=.r0 X25
def X26:List MO:=[Qa (Qv 24) (Qd (Qn 3)),Qa (Qv 25) (Qf 3 true (Qn 5)),Qa (Qv 26) (Qg 0 (Qn 1)),Qa (Qv 27) (Qg 5 (Qn 26)),Qa (Qv 28) (Qf 1 false (Qn 27)),Qa (Qv 29) (Qd (Qn 4)),Qa (Qv 30) (Qj 1 (Qn 28) (Qn 29)),Qa (Qv 31) (Qf 1 false (Qn 30)),Qa (Qv 32) (MOp.build [(Qr Qu 0),(Qr Qu 0),(D.str (ByteArray.mk #[])),(Qr Qu 0)] [(0,(3,(Qn 25))),(3,(1,(Qn 31)))]),Qa (Qv 33) (MOp.bslice 4 [(Qr Qu 0),(Qr Qu 0),(D.str (ByteArray.mk #[])),(Qr Qu 0)] 1 [(0,(Qn 32))]),Qa (Qv 34) (MOp.app 87 4 40 (Qn 24) (Qn 33)),Qa (Qv 3) (Qd (Qn 34))]
def Yye:MC:=.reg true X26
def X27:List MO:=[Qa (Qv 35) (Qe Qt Go.BinOp.add (Qn 19) (Qo (Qp (Qq (Qr Qu 1))))),Qa (Qv 19) (Qd (Qn 35))]
def Yyf:MC:=.r0 X27
def Yyg:MC:=.seq Yyc (.seq (.cond (Qn 20) .skip (MC.exit 0)) (.seq (.blk 1 (.seq Yyd Yye)) Yyf))
def X28:List MO:=[Qa (Qv 36) (Qd (Qn 3)),Qa (Qv 37) (Qh 80 [(Qn 36),(Qo (Qp (Qq (D.fn (Go.Fn.func 81) []))))])]
def Yyh:MC:=.r0 X28
def X29:List MO:=[Qa (Qv 38) (Qd (Qn 3)),Qa (Qv 2) (Qd (Qn 38))]
def Yyi:MC:=.r0 X29
def Yyj:MC:=.seq (.seq Whm (.blk 0 (.loop Yyg))) (.seq Yyh (.seq Yyi .ret))
def Yyk:MC:=.seq (.seq Whj (.cond (Qn 14) (.seq Whk .ret) .skip)) (.seq Whl Yyj)
def X3a:MC:=.seq Whi Yyk
attribute [go_sem] Ypv Ypw Ypx Ypy Ypz X24 X25 X26 X27 X28 X29
theorem Wsn:KK QP 50 f50 [1] X3a [(RV.t 2)] 39:=by refine⟨func50,?_,?_,?_,?_⟩<;>kernel_rfl
theorem Whn:Xaa QP 50=true:=by kernel_rfl
theorem Who (h:GI QP gp [(RV.t 2)] res 39 X3a args):Xam QP gp 50 args res:=Wsn.i Whn h
def Yp0:List MO:=[Qa (Qv 2) (MOp.ibox (Qn 0)),Qa (Qv 4) (Qd (Qo (Qp A.nil))),Qa (Qv 5) (Qd (Qo (Qp (Qq (Qr Qu 0)))))]
def Whp:MC:=.r0 Yp0
def Yp1:List MO:=[Qa (Qv 9) (Qd (Qn 1)),Qa (Qv 10) (Qe Qt Go.BinOp.lss (Qn 9) (Qo (Qp (Qq (Qr Qu 0))))),Qa (Qv 11) (Qd (Qn 10)),Qb 11 false (Qv 12),Qa (Qv 12) (Qd (Qn 1)),Qb 11 false (Qv 13),Qa (Qv 13) (Qg 1 (Qn 2)),Qb 11 false (Qv 14),Qa (Qv 14) (Qf 1 false (Qn 13)),Qb 11 false (Qv 15),Qa (Qv 15) (Qk Qt (Qn 14)),Qb 11 false (Qv 16),Qa (Qv 16) (Qe Qt Go.BinOp.geq (Qn 12) (Qn 15)),Qa (Qv 17) (Qm (Qn 11) (Qo (Qp (Qq (Qs true)))) (Qn 16))]
def Whq:MC:=.r0 Yp1
def Yp2:List MO:=[Qa (Qv 4) (Qd (Qo (Qp A.nil))),Qa (Qv 5) (Qd (Qo (Qp (Qq (Qr Qu 2)))))]
def Whr:MC:=.r0 Yp2
def Yp3:List MO:=[Qa (Qv 6) (Qd (Qo (Qp A.nil)))]
def Whs:MC:=.r0 Yp3
def Yp4:List MO:=[Qa (Qv 18) (Qg 1 (Qn 2)),Qa (Qv 19) (Qf 1 false (Qn 18)),Qa (Qv 20) (Qd (Qn 1)),Qa (Qv 21) (Qj 6 (Qn 19) (Qn 20)),Qa (Qv 22) (Qf 6 true (Qn 21)),Qa (Qv 23) (Qh 76 [(Qn 22)])]
def Wht:MC:=.r0 Yp4
def X3b:List MO:=[Qa (Qv 24) (Qg 1 (Qn 2)),Qa (Qv 25) (Qf 1 false (Qn 24)),Qa (Qv 26) (Qd (Qn 1)),Qa (Qv 27) (Qj 6 (Qn 25) (Qn 26)),Qa (Qv 28) (Qf 6 true (Qn 27)),Qa (Qv 29) (Qh 77 [(Qn 28)]),Qa (Qv 7) (Qd (Qn 29))]
def Yyl:MC:=.r0 X3b
def X3c:List MO:=[Qa (Qv 8) (Qd (Qo (Qp (Qq (Qr Qu 0)))))]
def Yym:MC:=.r0 X3c
def X3d:List MO:=[Qa (Qv 30) (Qd (Qn 8)),Qa (Qv 31) (Qd (Qn 7)),Qa (Qv 32) (Qk Qt (Qn 31)),Qa (Qv 33) (Qe Qt Go.BinOp.lss (Qn 30) (Qn 32))]
def Yyn:MC:=.r0 X3d
def X3e:List MO:=[Qa (Qv 36) (Qd (Qn 6)),Qa (Qv 37) (Qg 1 (Qn 2)),Qa (Qv 38) (Qf 1 false (Qn 37)),Qa (Qv 39) (Qd (Qn 1)),Qa (Qv 40) (Qj 6 (Qn 38) (Qn 39)),Qa (Qv 41) (Qg 4 (Qn 40)),Qa (Qv 42) (Qf 1 false (Qn 41)),Qa (Qv 43) (Qd (Qn 7)),Qa (Qv 44) (Qd (Qn 8)),Qa (Qv 45) (Qj 1 (Qn 43) (Qn 44)),Qa (Qv 46) (Qf 1 false (Qn 45)),Qa (Qv 47) (Qj 3 (Qn 42) (Qn 46)),Qa (Qv 48) (Qf 3 true (Qn 47)),Qa (Qv 49) (MOp.bslice 3 [(Qr Qu 0),(Qr Qu 0),(D.str (ByteArray.mk #[]))] 1 [(0,(Qn 48))]),Qa (Qv 50) (MOp.app 41 3 32 (Qn 36) (Qn 49)),Qa (Qv 6) (Qd (Qn 50))]
def Yyo:MC:=.reg true X3e
def X3f:List MO:=[Qa (Qv 34) (Qd (Qn 8)),Qa (Qv 35) (Qe Qt Go.BinOp.add (Qn 34) (Qo (Qp (Qq (Qr Qu 1))))),Qa (Qv 8) (Qd (Qn 35))]
def Yyp:MC:=.r0 X3f
def Yyq:MC:=.seq Yym (.blk 0 (.loop (.seq (.seq Yyn (.cond (Qn 33) .skip (MC.exit 0))) (.seq (.blk 1 Yyo) Yyp))))
def Xd4:List MO:=[Qa (Qv 51) (Qd (Qn 6)),Qa (Qv 4) (Qd (Qn 51)),Qa (Qv 5) (Qd (Qo (Qp (Qq (Qr Qu 0)))))]
def Yyr:MC:=.r0 Xd4
def Yys:MC:=.seq (.seq Wht (.cond (Qn 23) (.seq Yyl Yyq) .skip)) (.seq Yyr .ret)
def Yyt:MC:=.seq (.seq Whq (.cond (Qn 17) (.seq Whr .ret) .skip)) (.seq Whs Yys)
def X3g:MC:=.seq Whp Yyt
attribute [go_sem] Yp0 Yp1 Yp2 Yp3 Yp4 X3b X3c X3d X3e X3f
theorem Wso:KK QP 51 f51 [2] X3g [(RV.t 4),(RV.t 5)] 52:=by refine⟨func51,?_,?_,?_,?_⟩<;>kernel_rfl
theorem Whu:Xaa QP 51=true:=by kernel_rfl
theorem Whv (h:GI QP gp [(RV.t 4),(RV.t 5)] res 52 X3g args):Xam QP gp 51 args res:=Wso.i Whu h
def Yp5:List MO:=[Qa (Qv 4) (Qd (Qo (Qp (Qq (Qs false)))))]
def Whw:MC:=.r0 Yp5
def Yp6:List MO:=[Qa (Qv 6) (Qd (Qn 0)),Qa (Qv 7) (Qk Qt (Qn 6)),Qa (Qv 8) (Qd (Qn 1)),Qa (Qv 9) (Qk Qt (Qn 8)),Qa (Qv 10) (Qe Qt Go.BinOp.neq (Qn 7) (Qn 9))]
def Whx:MC:=.r0 Yp6
def Yp7:List MO:=[Qa (Qv 4) (Qd (Qo (Qp (Qq (Qs false)))))]
def Why:MC:=.r0 Yp7
def Yp8:List MO:=[Qa (Qv 5) (Qd (Qo (Qp (Qq (Qr Qu 0)))))]
def Whz:MC:=.r0 Yp8
def Yp9:List MO:=[Qa (Qv 11) (Qd (Qn 5)),Qa (Qv 12) (Qd (Qn 0)),Qa (Qv 13) (Qk Qt (Qn 12)),Qa (Qv 14) (Qe Qt Go.BinOp.lss (Qn 11) (Qn 13))]
def Wh0:MC:=.r0 Yp9
def X3h:List MO:=[Qa (Qv 17) (Qd (Qn 0)),Qa (Qv 18) (Qd (Qn 5)),Qa (Qv 19) (Qj 3 (Qn 17) (Qn 18)),Qa (Qv 20) (Qf 3 true (Qn 19)),Qa (Qv 21) (Qd (Qn 1)),Qa (Qv 22) (Qd (Qn 5)),Qa (Qv 23) (Qj 3 (Qn 21) (Qn 22)),Qa (Qv 24) (Qf 3 true (Qn 23)),Qa (Qv 25) (MOp.eqs true [Qt,Qt,Leaf.s] (Qn 20) (Qn 24))]
def Yyu:MC:=.reg true X3h
def X3i:List MO:=[Qa (Qv 4) (Qd (Qo (Qp (Qq (Qs false)))))]
def Yyv:MC:=.r0 X3i
def X3j:List MO:=[Qa (Qv 15) (Qd (Qn 5)),Qa (Qv 16) (Qe Qt Go.BinOp.add (Qn 15) (Qo (Qp (Qq (Qr Qu 1))))),Qa (Qv 5) (Qd (Qn 16))]
def Yyw:MC:=.r0 X3j
def Yyx:MC:=.seq (.seq Wh0 (.cond (Qn 14) .skip (MC.exit 0))) (.seq (.blk 1 (.seq Yyu (.cond (Qn 25) (.seq Yyv .ret) .skip))) Yyw)
def X3k:List MO:=[Qa (Qv 4) (Qd (Qo (Qp (Qq (Qs true)))))]
def Yyy:MC:=.r0 X3k
def Yyz:MC:=.seq (.seq Whx (.cond (Qn 10) (.seq Why .ret) .skip)) (.seq (.seq Whz (.blk 0 (.loop Yyx))) (.seq Yyy .ret))
def X3l:MC:=.seq Whw Yyz
attribute [go_sem] Yp5 Yp6 Yp7 Yp8 Yp9 X3h X3i X3j X3k
theorem Wsp:KK QP 52 f52 [] X3l [(RV.t 4)] 26:=by refine⟨func52,?_,?_,?_,?_⟩<;>kernel_rfl
theorem Wh1:Xaa QP 52=true:=by kernel_rfl
theorem Wh2 (h:GI QP gp [(RV.t 4)] res 26 X3l args):Xam QP gp 52 args res:=Wsp.i Wh1 h
def Xiv:List MO:=[Qa (Qv 2) (MOp.ibox (Qn 0)),Qa (Qv 4) (Qd (Qo (Qp A.nil))),Qa (Qv 5) (Qd (Qo (Qp (Qq (Qr Qu 0)))))]
def Wh3:MC:=.r0 Xiv
def Xiw:List MO:=[Qa (Qv 12) (Qf 2 true (Qn 2)),Qa (Qv 13) (Qd (Qn 1)),Qa (Qv 14) (Qh 49 [(Qn 12),(Qn 13)]),Qa (Qv 11) (Qd (Qn 14)),Qa (Qv 15) (Qi (Qn 11) 0),Qa (Qv 16) (Qi (Qn 11) 1),Qa (Qv 6) (MOp.alloc [(Qr Qu 0),(Qr Qu 0),(Qr Qu 0),(D.str (ByteArray.mk #[])),(D.sl []),(D.sl []),(Qr Qu 0)]),Qa none (Ql 7 (Qn 6) (Qn 15)),Qa (Qv 7) (Qd (Qn 16))]
def Wh4:MC:=.r0 Xiw
def Xix:List MO:=[Qa (Qv 8) (Qd (Qo (Qp A.nil)))]
def Wh5:MC:=.r0 Xix
def Xiy:List MO:=[Qa (Qv 17) (Qf 7 true (Qn 6)),Qa (Qv 18) (Qh 50 [(Qn 17)]),Qa (Qv 19) (Qk Qt (Qn 18)),Qa (Qv 20) (Qd (Qo (Qp (Qq (Qr Qu 0)))))]
def Wh6:MC:=.r0 Xiy
def Xhu:List MO:=[Qa (Qv 21) (Qe Qt Go.BinOp.lss (Qn 20) (Qn 19))]
def Wh7:MC:=.r0 Xhu
def Xiz:List MO:=[Qa (Qv 22) (Qj 4 (Qn 18) (Qn 20)),Qa (Qv 23) (Qf 4 true (Qn 22)),Qa (Qv 10) (MOp.alloc [(Qr Qu 0),(Qr Qu 0),(D.str (ByteArray.mk #[])),(Qr Qu 0)]),Qa none (Ql 4 (Qn 10) (Qn 23))]
def Wh8:MC:=.r0 Xiz
def Xi0:List MO:=[Qa (Qv 24) (Qd (Qn 8)),Qa (Qv 25) (Qg 0 (Qn 10)),Qa (Qv 26) (Qf 3 true (Qn 25)),Qa (Qv 27) (MOp.bslice 3 [(Qr Qu 0),(Qr Qu 0),(D.str (ByteArray.mk #[]))] 1 [(0,(Qn 26))]),Qa (Qv 28) (MOp.app 41 3 32 (Qn 24) (Qn 27)),Qa (Qv 8) (Qd (Qn 28))]
def Wh9:MC:=.r0 Xi0
def Xfz:List MO:=[Qa (Qv 29) (Qe Qt Go.BinOp.add (Qn 20) (Qo (Qp (Qq (Qr Qu 1))))),Qa (Qv 20) (Qd (Qn 29))]
def Yy0:MC:=.r0 Xfz
def Yy1:MC:=.seq Wh7 (.seq (.cond (Qn 21) .skip (MC.exit 0)) (.seq (.blk 1 (.seq Wh8 Wh9)) Yy0))
def Xf0:List MO:=[Qa (Qv 30) (Qd (Qn 8)),Qa (Qv 31) (Qd (Qn 7)),Qa (Qv 4) (Qd (Qn 30)),Qa (Qv 5) (Qd (Qn 31))]
def Yy2:MC:=.r0 Xf0
def Yy3:MC:=.seq Wh5 (.seq (.seq Wh6 (.blk 0 (.loop Yy1))) (.seq Yy2 .ret))
def X3m:MC:=.seq Wh3 (.seq Wh4 Yy3)
theorem Wsq:KK QP 64 f64 [2] X3m [(RV.t 4),(RV.t 5)] 32:=by refine⟨func64,?_,?_,?_,?_⟩<;>kernel_rfl
theorem Wia:Xaa QP 64=true:=by kernel_rfl
theorem Wib (h:GI QP gp [(RV.t 4),(RV.t 5)] res 32 X3m args):Xam QP gp 64 args res:=Wsq.i Wia h
def Yqa:List MO:=[Qa (Qv 1) (MOp.ibox (Qn 0)),Qa (Qv 2) (MOp.alloc [(Qr Qu 0),(Qr Qu 0),(D.str (ByteArray.mk #[]))])]
def Wic:MC:=.r0 Yqa
def Yqb:List MO:=[Qa (Qv 3) (Qg 0 (Qn 1)),Qa (Qv 4) (Qf 1 false (Qn 3)),Qa (Qv 5) (Qg 1 (Qn 1)),Qa (Qv 6) (Qf 1 false (Qn 5)),Qa (Qv 7) (Qg 2 (Qn 1)),Qa (Qv 8) (Qf 1 false (Qn 7)),Qa (Qv 9) (Qh 94 [(Qn 8)]),Qa (Qv 10) (MOp.build [(Qr Qu 0),(Qr Qu 0),(D.str (ByteArray.mk #[]))] [(0,(1,(Qn 4))),(1,(1,(Qn 6))),(2,(1,(Qn 9)))]),Qa none (Ql 3 (Qn 2) (Qn 10))]
def Wid:MC:=.reg true Yqb
def Yqc:MC:=.seq Wic (.seq Wid .ret)
attribute [go_sem] Yqa Yqb
theorem Wsr:KK QP 68 f68 [1] Yqc [(RV.cell 2 3 true)] 11:=by refine⟨func68,?_,?_,?_,?_⟩<;>kernel_rfl
theorem Wie:Xaa QP 68=true:=by kernel_rfl
theorem Wif (h:GI QP gp [(RV.cell 2 3 true)] res 11 Yqc args):Xam QP gp 68 args res:=Wsr.i Wie h
def Yqd:List MO:=[Qa (Qv 2) (Qd (Qo (Qp (Qq (Qr Qu 0))))),Qa (Qv 3) (Qd (Qo (Qp (Qq (Qr Qu 0)))))]
def Wig:MC:=.r0 Yqd
def Yqe:List MO:=[Qa (Qv 4) (MOp.alloc [(Qr Qu 0),(Qr Qu 0)])]
def Wih:MC:=.r0 Yqe
def Yqf:List MO:=[Qa (Qv 5) (Qd (Qn 0)),Qa (Qv 6) (MOp.mkI 156 (Qn 4)),Qa (Qv 7) (Qh 87 [(Qn 5),(Qn 6)])]
def Wii:MC:=.r0 Yqf
def Yqg:List MO:=[Qa (Qv 8) (Qg 0 (Qn 4)),Qa (Qv 9) (Qf 1 false (Qn 8)),Qa (Qv 10) (Qg 1 (Qn 4)),Qa (Qv 11) (Qf 1 false (Qn 10)),Qa (Qv 2) (Qd (Qn 9)),Qa (Qv 3) (Qd (Qn 11))]
def Wij:MC:=.reg true Yqg
def Yqh:List MO:=[Qa (Qv 2) (Qd (Qo (Qp (Qq (Qr Qu 0))))),Qa (Qv 3) (Qd (Qo (Qp (Qq (Qr Qu 0)))))]
def Wik:MC:=.r0 Yqh
def Yy4:MC:=.seq Wih (.seq (.seq Wii (.cond (Qn 7) (.seq Wij .ret) .skip)) (.seq Wik .ret))
def X3n:MC:=.seq Wig Yy4
attribute [go_sem] Yqd Yqe Yqf Yqg Yqh
theorem Wss:KK QP 69 f69 [] X3n [(RV.t 2),(RV.t 3)] 12:=by refine⟨func69,?_,?_,?_,?_⟩<;>kernel_rfl
theorem Wil:Xaa QP 69=true:=by kernel_rfl
theorem Wim (h:GI QP gp [(RV.t 2),(RV.t 3)] res 12 X3n args):Xam QP gp 69 args res:=Wss.i Wil h
def Yqi:List MO:=[Qa (Qv 1) (MOp.ibox (Qn 0)),Qa (Qv 2) (MOp.alloc [D.nilI])]
def Win:MC:=.r0 Yqi
def Yqj:List MO:=[Qa (Qv 6) (Qg 1 (Qn 1)),Qa (Qv 7) (Qf 1 false (Qn 6)),Qa (Qv 8) (Qk Qt (Qn 7)),Qa (Qv 9) (Qe Qt Go.BinOp.gtr (Qn 8) (Qo (Qp (Qq (Qr Qu 200))))),Qa (Qv 5) (Qd (Qn 9))]
def Wio:MC:=.r0 Yqj
def Yqk:List MO:=[Qa (Qv 10) (MOp.build [(Qr Qu 0),(Qr Qu 0)] [(0,(1,(Qo (Qp (Qq (Qr Qu 0)))))),(1,(1,(Qo (Qp (Qq (Qr Qu 71))))))]),Qa (Qv 11) (MOp.mkI 155 (Qn 10)),Qa none (Ql 1 (Qn 2) (Qn 11))]
def Wip:MC:=.r0 Yqk
def Yql:List MO:=[Qa (Qv 13) (Qf 2 true (Qn 1)),Qa (Qv 14) (Qg 0 (Qn 1)),Qa (Qv 15) (Qf 1 false (Qn 14)),Qa (Qv 16) (Qh 78 [(Qn 13),(Qn 15)]),Qa (Qv 17) (MOp.not (Qn 16)),Qa (Qv 12) (Qd (Qn 17))]
def Wiq:MC:=.r0 Yql
def Yqm:List MO:=[Qa (Qv 18) (MOp.build [(Qr Qu 0),(Qr Qu 0)] [(0,(1,(Qo (Qp (Qq (Qr Qu (-1))))))),(1,(1,(Qo (Qp (Qq (Qr Qu 70))))))]),Qa (Qv 19) (MOp.mkI 155 (Qn 18)),Qa none (Ql 1 (Qn 2) (Qn 19))]
def Wir:MC:=.r0 Yqm
def Yy5:MC:=.seq Wio (.cond (Qn 5) (.seq Wip .ret) (.seq Wiq (.cond (Qn 12) (.seq Wir .ret) .skip)))
def X3o:List MO:=[Qa (Qv 20) (Qf 2 true (Qn 1)),Qa (Qv 21) (Qh 95 [(Qn 20)])]
def Yy6:MC:=.r0 X3o
def X3p:List MO:=[Qa (Qv 3) (Qd (Qn 22))]
def Yy7:MC:=.r0 X3p
def X3q:List MO:=[Qa (Qv 4) (MOp.alloc [(Qr Qu 0),(Qr Qu 0),(Qr Qu 0),(D.str (ByteArray.mk #[])),(D.sl []),(D.sl []),(Qr Qu 0)]),Qa none (Ql 7 (Qn 4) (Qn 23))]
def Yy8:MC:=.r0 X3q
def X3r:List MO:=[Qa (Qv 24) (Qf 7 true (Qn 4)),Qa (Qv 25) (Qh 96 [(Qn 24)]),Qa (Qv 26) (MOp.not (Qn 25))]
def Yy9:MC:=.r0 X3r
def X3s:List MO:=[Qa (Qv 27) (Qd (Qn 3)),Qa (Qv 28) (MOp.build [(Qr Qu 0),(Qr Qu 0)] [(0,(1,(Qn 27))),(1,(1,(Qo (Qp (Qq (Qr Qu 70))))))]),Qa (Qv 29) (MOp.mkI 155 (Qn 28)),Qa none (Ql 1 (Qn 2) (Qn 29))]
def Yza:MC:=.r0 X3s
def Yzb:MC:=.rf (Qn 21) [22,23] (.seq Yy7 Yy8) (.blk 2 (.seq Yy9 (.cond (Qn 26) (.seq Yza .ret) .skip)))
def X3t:List MO:=[Qa none (Ql 1 (Qn 2) (Qo (Qp (Qq D.nilI))))]
def Yzc:MC:=.r0 X3t
def Yzd:MC:=.seq (.blk 0 Yy5) (.seq (.seq Yy6 (.blk 1 Yzb)) (.seq Yzc .ret))
def X3u:MC:=.seq Win Yzd
attribute [go_sem] Yqi Yqj Yqk Yql Yqm X3o X3p X3q X3r X3s X3t
theorem Wst:KK QP 70 f70 [1] X3u [(RV.cell 2 1 false)] 30:=by refine⟨func70,?_,?_,?_,?_⟩<;>kernel_rfl
theorem Wis:Xaa QP 70=true:=by kernel_rfl
theorem Wit (h:GI QP gp [(RV.cell 2 1 false)] res 30 X3u args):Xam QP gp 70 args res:=Wst.i Wis h
def Yqn:List MO:=[Qa (Qv 2) (MOp.ibox (Qn 0)),Qa (Qv 4) (Qd (Qo (Qp (Qq (Qs false)))))]
def Wiu:MC:=.r0 Yqn
def Yqo:List MO:=[Qa (Qv 5) (Qd (Qo (Qp (Qq (Qr Qu 0)))))]
def Wiv:MC:=.r0 Yqo
def Yqp:List MO:=[Qa (Qv 8) (Qd (Qn 5)),Qa (Qv 9) (Qg 5 (Qn 2)),Qa (Qv 10) (Qf 1 false (Qn 9)),Qa (Qv 11) (Qk Qt (Qn 10)),Qa (Qv 12) (Qe Qt Go.BinOp.lss (Qn 8) (Qn 11))]
def Wiw:MC:=.r0 Yqp
def Yqq:List MO:=[Qa (Qv 15) (Qg 5 (Qn 2)),Qa (Qv 16) (Qf 1 false (Qn 15)),Qa (Qv 17) (Qd (Qn 5)),Qa (Qv 18) (Qj 1 (Qn 16) (Qn 17)),Qa (Qv 19) (Qf 1 false (Qn 18)),Qa (Qv 20) (Qe Qt Go.BinOp.lss (Qn 19) (Qo (Qp (Qq (Qr Qu 0))))),Qa (Qv 21) (Qd (Qn 20)),Qb 21 false (Qv 22),Qa (Qv 22) (Qg 5 (Qn 2)),Qb 21 false (Qv 23),Qa (Qv 23) (Qf 1 false (Qn 22)),Qb 21 false (Qv 24),Qa (Qv 24) (Qd (Qn 5)),Qb 21 false (Qv 25),Qa (Qv 25) (Qj 1 (Qn 23) (Qn 24)),Qb 21 false (Qv 26),Qa (Qv 26) (Qf 1 false (Qn 25)),Qb 21 false (Qv 27),Qa (Qv 27) (Qd (Qn 1)),Qb 21 false (Qv 28),Qa (Qv 28) (Qe Qt Go.BinOp.geq (Qn 26) (Qn 27)),Qa (Qv 29) (Qm (Qn 21) (Qo (Qp (Qq (Qs true)))) (Qn 28))]
def Wix:MC:=.r0 Yqq
def Yqr:List MO:=[Qa (Qv 4) (Qd (Qo (Qp (Qq (Qs false)))))]
def Wiy:MC:=.r0 Yqr
def X3v:List MO:=[Qa (Qv 13) (Qd (Qn 5)),Qa (Qv 14) (Qe Qt Go.BinOp.add (Qn 13) (Qo (Qp (Qq (Qr Qu 1))))),Qa (Qv 5) (Qd (Qn 14))]
def Yze:MC:=.r0 X3v
def Yzf:MC:=.seq (.seq Wiw (.cond (Qn 12) .skip (MC.exit 0))) (.seq (.blk 1 (.seq Wix (.cond (Qn 29) (.seq Wiy .ret) .skip))) Yze)
def X3w:List MO:=[Qa (Qv 6) (Qd (Qo (Qp (Qq (Qr Qu 0)))))]
def Yzg:MC:=.r0 X3w
def X3x:List MO:=[Qa (Qv 30) (Qd (Qn 6)),Qa (Qv 31) (Qg 4 (Qn 2)),Qa (Qv 32) (Qf 1 false (Qn 31)),Qa (Qv 33) (Qk Qt (Qn 32)),Qa (Qv 34) (Qe Qt Go.BinOp.lss (Qn 30) (Qn 33))]
def Yzh:MC:=.r0 X3x
def X3y:List MO:=[Qa (Qv 37) (Qg 4 (Qn 2)),Qa (Qv 38) (Qf 1 false (Qn 37)),Qa (Qv 39) (Qd (Qn 6)),Qa (Qv 40) (Qj 3 (Qn 38) (Qn 39)),Qa (Qv 41) (Qf 3 true (Qn 40)),Qa (Qv 42) (Qh 98 [(Qn 41)]),Qa (Qv 43) (MOp.not (Qn 42))]
def Yzi:MC:=.r0 X3y
def X3z:List MO:=[Qa (Qv 4) (Qd (Qo (Qp (Qq (Qs false)))))]
def Yzj:MC:=.r0 X3z
def X30:List MO:=[Qa (Qv 35) (Qd (Qn 6)),Qa (Qv 36) (Qe Qt Go.BinOp.add (Qn 35) (Qo (Qp (Qq (Qr Qu 1))))),Qa (Qv 6) (Qd (Qn 36))]
def Yzk:MC:=.r0 X30
def Yzl:MC:=.seq (.seq Yzh (.cond (Qn 34) .skip (MC.exit 2))) (.seq (.blk 3 (.seq Yzi (.cond (Qn 43) (.seq Yzj .ret) .skip))) Yzk)
def X31:List MO:=[Qa (Qv 44) (Qg 1 (Qn 2)),Qa (Qv 45) (Qf 3 true (Qn 44)),Qa (Qv 46) (MOp.build [(Qr Qu 0),(Qr Qu 0),(D.str (ByteArray.mk #[]))] []),Qa (Qv 47) (MOp.eqs false [Qt,Qt,Leaf.s] (Qn 45) (Qn 46)),Qa (Qv 7) (Qd (Qn 47))]
def Yzm:MC:=.r0 X31
def X32:List MO:=[Qa (Qv 48) (Qg 0 (Qn 2)),Qa (Qv 49) (Qf 1 false (Qn 48))]
def Yzn:MC:=.r0 X32
def X33:List MO:=[Qa (Qv 51) (Qe Qt Go.BinOp.eql (Qn 49) (Qo (Qp (Qq (Qr Qu 0))))),Qa (Qv 50) (Qd (Qn 51))]
def Yzo:MC:=.r0 X33
def X34:List MO:=[Qa (Qv 52) (Qg 1 (Qn 2)),Qa (Qv 53) (Qf 3 true (Qn 52)),Qa (Qv 54) (Qh 98 [(Qn 53)]),Qa (Qv 55) (Qd (Qn 54)),Qb 55 true (Qv 56),Qa (Qv 56) (Qg 4 (Qn 2)),Qb 55 true (Qv 57),Qa (Qv 57) (Qf 1 false (Qn 56)),Qb 55 true (Qv 58),Qa (Qv 58) (Qk Qt (Qn 57)),Qb 55 true (Qv 59),Qa (Qv 59) (Qe Qt Go.BinOp.eql (Qn 58) (Qo (Qp (Qq (Qr Qu 0))))),Qa (Qv 60) (Qm (Qn 55) (Qn 59) (Qo (Qp (Qq (Qs false))))),Qa (Qv 61) (Qd (Qn 60)),Qb 61 true (Qv 62),Qa (Qv 62) (Qg 5 (Qn 2)),Qb 61 true (Qv 63),Qa (Qv 63) (Qf 1 false (Qn 62)),Qb 61 true (Qv 64),Qa (Qv 64) (Qk Qt (Qn 63)),Qb 61 true (Qv 65),Qa (Qv 65) (Qe Qt Go.BinOp.eql (Qn 64) (Qo (Qp (Qq (Qr Qu 0))))),Qa (Qv 66) (Qm (Qn 61) (Qn 65) (Qo (Qp (Qq (Qs false))))),Qa (Qv 4) (Qd (Qn 66))]
def Yzp:MC:=.r0 X34
def X35:List MO:=[Qa (Qv 68) (Qe Qt Go.BinOp.eql (Qn 49) (Qo (Qp (Qq (Qr Qu 1))))),Qa (Qv 67) (Qd (Qn 68))]
def Yzq:MC:=.r0 X35
def X36:List MO:=[Qa (Qv 69) (Qd (Qn 7)),Qa (Qv 70) (Qd (Qn 69)),Qb 70 true (Qv 71),Qa (Qv 71) (Qg 4 (Qn 2)),Qb 70 true (Qv 72),Qa (Qv 72) (Qf 1 false (Qn 71)),Qb 70 true (Qv 73),Qa (Qv 73) (Qk Qt (Qn 72)),Qb 70 true (Qv 74),Qa (Qv 74) (Qe Qt Go.BinOp.eql (Qn 73) (Qo (Qp (Qq (Qr Qu 0))))),Qa (Qv 75) (Qm (Qn 70) (Qn 74) (Qo (Qp (Qq (Qs false))))),Qa (Qv 4) (Qd (Qn 75))]
def Yzr:MC:=.r0 X36
def X37:List MO:=[Qa (Qv 77) (Qe Qt Go.BinOp.eql (Qn 49) (Qo (Qp (Qq (Qr Qu 2))))),Qa (Qv 76) (Qd (Qn 77))]
def Yzs:MC:=.r0 X37
def X38:List MO:=[Qa (Qv 78) (Qd (Qn 7)),Qa (Qv 79) (Qd (Qn 78)),Qb 79 true (Qv 80),Qa (Qv 80) (Qg 4 (Qn 2)),Qb 79 true (Qv 81),Qa (Qv 81) (Qf 1 false (Qn 80)),Qb 79 true (Qv 82),Qa (Qv 82) (Qk Qt (Qn 81)),Qb 79 true (Qv 83),Qa (Qv 83) (Qg 5 (Qn 2)),Qb 79 true (Qv 84),Qa (Qv 84) (Qf 1 false (Qn 83)),Qb 79 true (Qv 85),Qa (Qv 85) (Qk Qt (Qn 84)),Qb 79 true (Qv 86),Qa (Qv 86) (Qe Qt Go.BinOp.eql (Qn 82) (Qn 85)),Qa (Qv 87) (Qm (Qn 79) (Qn 86) (Qo (Qp (Qq (Qs false))))),Qa (Qv 88) (Qd (Qn 87)),Qb 88 true (Qv 89),Qa (Qv 89) (Qg 4 (Qn 2)),Qb 88 true (Qv 90),Qa (Qv 90) (Qf 1 false (Qn 89)),Qb 88 true (Qv 91),Qa (Qv 91) (Qh 99 [(Qn 90)]),Qb 88 true (Qv 92),Qa (Qv 92) (MOp.not (Qn 91)),Qa (Qv 93) (Qm (Qn 88) (Qn 92) (Qo (Qp (Qq (Qs false))))),Qa (Qv 4) (Qd (Qn 93))]
def Yzt:MC:=.r0 X38
def Yzu:MC:=.seq Yzq (.cond (Qn 67) (.seq Yzr .ret) (.seq Yzs (.cond (Qn 76) (.seq Yzt .ret) .skip)))
def Yzv:MC:=.seq Yzn (.blk 4 (.seq Yzo (.cond (Qn 50) (.seq Yzp .ret) Yzu)))
def X39:List MO:=[Qa (Qv 4) (Qd (Qo (Qp (Qq (Qs false)))))]
def Yzw:MC:=.r0 X39
def Yzx:MC:=.seq (.seq Yzg (.blk 2 (.loop Yzl))) (.seq Yzm (.seq Yzv (.seq Yzw .ret)))
def X4a:MC:=.seq Wiu (.seq (.seq Wiv (.blk 0 (.loop Yzf))) Yzx)
attribute [go_sem] Yqn Yqo Yqp Yqq Yqr X3v X3w X3x X3y X3z X30 X31 X32 X33 X34 X35 X36 X37 X38 X39
theorem Wsu:KK QP 72 f72 [2] X4a [(RV.t 4)] 94:=by refine⟨func72,?_,?_,?_,?_⟩<;>kernel_rfl
theorem Wiz:Xaa QP 72=true:=by kernel_rfl
theorem Wi0 (h:GI QP gp [(RV.t 4)] res 94 X4a args):Xam QP gp 72 args res:=Wsu.i Wiz h
def Yqs:List MO:=[Qa (Qv 1) (MOp.ibox (Qn 0)),Qa (Qv 2) (Qd (Qo (Qp (Qq (Qs false)))))]
def Wi1:MC:=.r0 Yqs
def Yqt:List MO:=[Qa (Qv 3) (Qg 0 (Qn 1)),Qa (Qv 4) (Qf 1 false (Qn 3)),Qa (Qv 5) (Qe Qt Go.BinOp.eql (Qn 4) (Qo (Qp (Qq (Qr Qu 2))))),Qa (Qv 6) (Qd (Qn 5)),Qb 6 true (Qv 7),Qa (Qv 7) (Qg 4 (Qn 1)),Qb 6 true (Qv 8),Qa (Qv 8) (Qf 1 false (Qn 7)),Qb 6 true (Qv 9),Qa (Qv 9) (Qk Qt (Qn 8)),Qb 6 true (Qv 10),Qa (Qv 10) (Qg 5 (Qn 1)),Qb 6 true (Qv 11),Qa (Qv 11) (Qf 1 false (Qn 10)),Qb 6 true (Qv 12),Qa (Qv 12) (Qk Qt (Qn 11)),Qb 6 true (Qv 13),Qa (Qv 13) (Qe Qt Go.BinOp.eql (Qn 9) (Qn 12)),Qa (Qv 14) (Qm (Qn 6) (Qn 13) (Qo (Qp (Qq (Qs false))))),Qa (Qv 2) (Qd (Qn 14))]
def Wi2:MC:=.r0 Yqt
def Yqu:MC:=.seq Wi1 (.seq Wi2 .ret)
attribute [go_sem] Yqs Yqt
theorem Wsv:KK QP 76 f76 [1] Yqu [(RV.t 2)] 15:=by refine⟨func76,?_,?_,?_,?_⟩<;>kernel_rfl
theorem Wi3:Xaa QP 76=true:=by kernel_rfl
theorem Wi4 (h:GI QP gp [(RV.t 2)] res 15 Yqu args):Xam QP gp 76 args res:=Wsv.i Wi3 h
def Yqv:List MO:=[Qa (Qv 1) (MOp.ibox (Qn 0)),Qa (Qv 2) (Qd (Qo (Qp A.nil)))]
def Wi5:MC:=.r0 Yqv
def Yqw:List MO:=[Qa (Qv 3) (Qd (Qo (Qp A.nil)))]
def Wi6:MC:=.r0 Yqw
def Yqx:List MO:=[Qa (Qv 4) (Qd (Qo (Qp (Qq (Qr Qu 0)))))]
def Wi7:MC:=.r0 Yqx
def Yqy:List MO:=[Qa (Qv 8) (Qd (Qn 4)),Qa (Qv 9) (Qg 4 (Qn 1)),Qa (Qv 10) (Qf 1 false (Qn 9)),Qa (Qv 11) (Qk Qt (Qn 10)),Qa (Qv 12) (Qe Qt Go.BinOp.lss (Qn 8) (Qn 11))]
def Wi8:MC:=.r0 Yqy
def Yqz:List MO:=[Qa (Qv 5) (Qd (Qo (Qp A.nil)))]
def Wi9:MC:=.r0 Yqz
def Yq0:List MO:=[Qa (Qv 6) (Qd (Qo (Qp (Qq (Qs false)))))]
def Wja:MC:=.r0 Yq0
def X4b:List MO:=[Qa (Qv 7) (Qd (Qo (Qp (Qq (Qr Qu 0)))))]
def Yzy:MC:=.r0 X4b
def X4c:List MO:=[Qa (Qv 15) (Qd (Qn 7)),Qa (Qv 16) (Qd (Qn 3)),Qa (Qv 17) (Qk Qt (Qn 16)),Qa (Qv 18) (Qe Qt Go.BinOp.lss (Qn 15) (Qn 17))]
def Yzz:MC:=.r0 X4c
def X4d:List MO:=[Qa (Qv 21) (Qd (Qn 6)),Qa (Qv 22) (MOp.not (Qn 21)),Qa (Qv 23) (Qd (Qn 22)),Qb 23 true (Qv 24),Qa (Qv 24) (Qg 4 (Qn 1)),Qb 23 true (Qv 25),Qa (Qv 25) (Qf 1 false (Qn 24)),Qb 23 true (Qv 26),Qa (Qv 26) (Qd (Qn 4)),Qb 23 true (Qv 27),Qa (Qv 27) (Qj 3 (Qn 25) (Qn 26)),Qb 23 true (Qv 28),Qa (Qv 28) (Qf 3 true (Qn 27)),Qb 23 true (Qv 29),Qa (Qv 29) (Qg 4 (Qn 1)),Qb 23 true (Qv 30),Qa (Qv 30) (Qf 1 false (Qn 29)),Qb 23 true (Qv 31),Qa (Qv 31) (Qd (Qn 3)),Qb 23 true (Qv 32),Qa (Qv 32) (Qd (Qn 7)),Qb 23 true (Qv 33),Qa (Qv 33) (Qj 1 (Qn 31) (Qn 32)),Qb 23 true (Qv 34),Qa (Qv 34) (Qf 1 false (Qn 33)),Qb 23 true (Qv 35),Qa (Qv 35) (Qj 3 (Qn 30) (Qn 34)),Qb 23 true (Qv 36),Qa (Qv 36) (Qf 3 true (Qn 35)),Qb 23 true (Qv 37),Qc (Qv 37) (Qh 104 [(Qn 28),(Qn 36)]),Qb 23 true (Qv 38),Qa (Qv 38) (Qe Qt Go.BinOp.lss (Qn 37) (Qo (Qp (Qq (Qr Qu 0))))),Qa (Qv 39) (Qm (Qn 23) (Qn 38) (Qo (Qp (Qq (Qs false)))))]
def Yz0:MC:=.reg true X4d
def X4e:List MO:=[Qa (Qv 40) (Qd (Qn 5)),Qa (Qv 41) (Qd (Qn 4)),Qa (Qv 42) (MOp.bslice 1 [(Qr Qu 0)] 1 [(0,(Qn 41))]),Qa (Qv 43) (MOp.app 3 1 8 (Qn 40) (Qn 42)),Qa (Qv 5) (Qd (Qn 43))]
def Yz1:MC:=.r0 X4e
def X4f:List MO:=[Qa (Qv 6) (Qd (Qo (Qp (Qq (Qs true)))))]
def Yz2:MC:=.r0 X4f
def X4g:List MO:=[Qa (Qv 44) (Qd (Qn 5)),Qa (Qv 45) (Qd (Qn 3)),Qa (Qv 46) (Qd (Qn 7)),Qa (Qv 47) (Qj 1 (Qn 45) (Qn 46)),Qa (Qv 48) (Qf 1 false (Qn 47)),Qa (Qv 49) (MOp.bslice 1 [(Qr Qu 0)] 1 [(0,(Qn 48))]),Qa (Qv 50) (MOp.app 3 1 8 (Qn 44) (Qn 49)),Qa (Qv 5) (Qd (Qn 50))]
def Yz3:MC:=.r0 X4g
def Yz4:MC:=.seq (.seq Yz0 (.cond (Qn 39) (.seq Yz1 Yz2) .skip)) Yz3
def X4h:List MO:=[Qa (Qv 19) (Qd (Qn 7)),Qa (Qv 20) (Qe Qt Go.BinOp.add (Qn 19) (Qo (Qp (Qq (Qr Qu 1))))),Qa (Qv 7) (Qd (Qn 20))]
def Yz5:MC:=.r0 X4h
def Yz6:MC:=.seq Yzy (.blk 2 (.loop (.seq (.seq Yzz (.cond (Qn 18) .skip (MC.exit 2))) (.seq (.blk 3 Yz4) Yz5))))
def X4i:List MO:=[Qa (Qv 51) (Qd (Qn 6)),Qa (Qv 52) (MOp.not (Qn 51))]
def Yz7:MC:=.r0 X4i
def X4j:List MO:=[Qa (Qv 53) (Qd (Qn 5)),Qa (Qv 54) (Qd (Qn 4)),Qa (Qv 55) (MOp.bslice 1 [(Qr Qu 0)] 1 [(0,(Qn 54))]),Qa (Qv 56) (MOp.app 3 1 8 (Qn 53) (Qn 55)),Qa (Qv 5) (Qd (Qn 56))]
def Yz8:MC:=.r0 X4j
def X4k:List MO:=[Qa (Qv 57) (Qd (Qn 5)),Qa (Qv 3) (Qd (Qn 57))]
def Yz9:MC:=.r0 X4k
def Y0a:MC:=.seq Yz6 (.seq (.seq Yz7 (.cond (Qn 52) Yz8 .skip)) Yz9)
def X4l:List MO:=[Qa (Qv 13) (Qd (Qn 4)),Qa (Qv 14) (Qe Qt Go.BinOp.add (Qn 13) (Qo (Qp (Qq (Qr Qu 1))))),Qa (Qv 4) (Qd (Qn 14))]
def Y0b:MC:=.r0 X4l
def Y0c:MC:=.seq (.blk 1 (.seq Wi9 (.seq Wja Y0a))) Y0b
def X4m:List MO:=[Qa (Qv 58) (Qd (Qn 3)),Qa (Qv 2) (Qd (Qn 58))]
def Y0d:MC:=.r0 X4m
def Y0e:MC:=.seq (.seq Wi7 (.blk 0 (.loop (.seq (.seq Wi8 (.cond (Qn 12) .skip (MC.exit 0))) Y0c)))) (.seq Y0d .ret)
def X4n:MC:=.seq Wi5 (.seq Wi6 Y0e)
attribute [go_sem] Yqv Yqw Yqx Yqy Yqz Yq0 X4b X4c X4d X4e X4f X4g X4h X4i X4j X4k X4l X4m
theorem Wsw:KK QP 77 f77 [1] X4n [(RV.t 2)] 59:=by refine⟨func77,?_,?_,?_,?_⟩<;>kernel_rfl
theorem Wjb:Xaa QP 77=true:=by kernel_rfl
theorem Wjc (h:GI QP gp [(RV.t 2)] res 59 X4n args):Xam QP gp 77 args res:=Wsw.i Wjb h
def Yq1:List MO:=[Qa (Qv 2) (MOp.ibox (Qn 0)),Qa (Qv 4) (Qd (Qo (Qp (Qq (Qs false)))))]
def Wjd:MC:=.r0 Yq1
def Yq2:List MO:=[Qa (Qv 5) (Qd (Qn 1)),Qa (Qv 6) (Qe Qt Go.BinOp.geq (Qn 5) (Qo (Qp (Qq (Qr Qu 0))))),Qa (Qv 7) (Qd (Qn 6)),Qb 7 true (Qv 8),Qa (Qv 8) (Qd (Qn 1)),Qb 7 true (Qv 9),Qa (Qv 9) (Qg 1 (Qn 2)),Qb 7 true (Qv 10),Qa (Qv 10) (Qf 1 false (Qn 9)),Qb 7 true (Qv 11),Qa (Qv 11) (Qk Qt (Qn 10)),Qb 7 true (Qv 12),Qa (Qv 12) (Qe Qt Go.BinOp.lss (Qn 8) (Qn 11)),Qa (Qv 13) (Qm (Qn 7) (Qn 12) (Qo (Qp (Qq (Qs false))))),Qa (Qv 4) (Qd (Qn 13))]
def Wje:MC:=.r0 Yq2
def Yq3:MC:=.seq Wjd (.seq Wje .ret)
attribute [go_sem] Yq1 Yq2
theorem Wsx:KK QP 78 f78 [2] Yq3 [(RV.t 4)] 14:=by refine⟨func78,?_,?_,?_,?_⟩<;>kernel_rfl
theorem Wjf:Xaa QP 78=true:=by kernel_rfl
theorem Wjg (h:GI QP gp [(RV.t 4)] res 14 Yq3 args):Xam QP gp 78 args res:=Wsx.i Wjf h
def Yq4:List MO:=[Qa (Qv 1) (MOp.ibox (Qn 0)),Qa (Qv 2) (Qd (Qo (Qp (Qq (Qs false)))))]
def Wjh:MC:=.r0 Yq4
def Yq5:List MO:=[Qa (Qv 3) (Qg 0 (Qn 1)),Qa (Qv 4) (Qg 4 (Qn 3)),Qa (Qv 5) (Qf 1 false (Qn 4)),Qa (Qv 6) (Qk Qt (Qn 5)),Qa (Qv 7) (Qg 0 (Qn 1)),Qa (Qv 8) (Qg 5 (Qn 7)),Qa (Qv 9) (Qf 1 false (Qn 8)),Qa (Qv 10) (Qk Qt (Qn 9)),Qa (Qv 11) (Qe Qt Go.BinOp.eql (Qn 6) (Qn 10)),Qa (Qv 2) (Qd (Qn 11))]
def Wji:MC:=.r0 Yq5
def Yq6:MC:=.seq Wjh (.seq Wji .ret)
attribute [go_sem] Yq4 Yq5
theorem Wsy:KK QP 79 f79 [1] Yq6 [(RV.t 2)] 12:=by refine⟨func79,?_,?_,?_,?_⟩<;>kernel_rfl
theorem Wjj:Xaa QP 79=true:=by kernel_rfl
theorem Wjk (h:GI QP gp [(RV.t 2)] res 12 Yq6 args):Xam QP gp 79 args res:=Wsy.i Wjj h
def Yq7:List MO:=[Qa (Qv 4) (Qd (Qn 0)),Qa (Qv 5) (Qd (Qn 0)),Qa (Qv 6) (Qk Qt (Qn 5)),Qa (Qv 7) (Qd (Qn 1)),Qa (Qv 8) (Qh 105 [(Qn 4),(Qn 6),(Qn 7)])]
def Yq8:MC:=.r0 Yq7
attribute [go_sem] Yq7
theorem Wsz:KK QP 80 f80 [] Yq8 [] 9:=by refine⟨func80,?_,?_,?_,?_⟩<;>kernel_rfl
theorem Wjl:Xaa QP 80=true:=by kernel_rfl
theorem Y0f (h:GT QP gp [] pre R 9 Yq8 args):Tri QP gp 80 args pre R:=Wsz.t h
def Yq9:List MO:=[Qa (Qv 2) (MOp.ibox (Qn 0)),Qa (Qv 3) (MOp.ibox (Qn 1)),Qa (Qv 4) (Qd (Qo (Qp (Qq (Qr Qu 0)))))]
def Wjm:MC:=.r0 Yq9
def Yra:List MO:=[Qa (Qv 5) (Qg 0 (Qn 2)),Qa (Qv 6) (Qf 3 true (Qn 5)),Qa (Qv 7) (Qg 0 (Qn 3)),Qa (Qv 8) (Qf 3 true (Qn 7)),Qa (Qv 9) (Qh 82 [(Qn 6),(Qn 8)]),Qa (Qv 4) (Qd (Qn 9))]
def Wjn:MC:=.r0 Yra
def Yrb:MC:=.seq Wjm (.seq Wjn .ret)
attribute [go_sem] Yq9 Yra
theorem Ws0:KK QP 81 f81 [2,3] Yrb [(RV.t 4)] 10:=by refine⟨func81,?_,?_,?_,?_⟩<;>kernel_rfl
theorem Wjo:Xaa QP 81=true:=by kernel_rfl
theorem Wjp (h:GI QP gp [(RV.t 4)] res 10 Yrb args):Xam QP gp 81 args res:=Ws0.i Wjo h
def Yrc:List MO:=[Qa (Qv 2) (MOp.ibox (Qn 0)),Qa (Qv 3) (MOp.ibox (Qn 1)),Qa (Qv 4) (Qd (Qo (Qp (Qq (Qr Qu 0)))))]
def Wjq:MC:=.r0 Yrc
def Yrd:List MO:=[Qa (Qv 5) (Qf 3 true (Qn 2)),Qa (Qv 6) (Qf 3 true (Qn 3)),Qa (Qv 7) (MOp.eqs false [Qt,Qt,Leaf.s] (Qn 5) (Qn 6))]
def Wjr:MC:=.r0 Yrd
def Yre:List MO:=[Qa (Qv 4) (Qd (Qo (Qp (Qq (Qr Qu 0)))))]
def Wjs:MC:=.r0 Yre
def Yrf:List MO:=[Qa (Qv 8) (Qg 0 (Qn 2)),Qa (Qv 9) (Qf 1 false (Qn 8)),Qa (Qv 10) (Qg 0 (Qn 3)),Qa (Qv 11) (Qf 1 false (Qn 10)),Qa (Qv 12) (Qh 107 [(Qn 9),(Qn 11)]),Qa (Qv 13) (Qg 1 (Qn 2)),Qa (Qv 14) (Qf 1 false (Qn 13)),Qa (Qv 15) (Qg 1 (Qn 3)),Qa (Qv 16) (Qf 1 false (Qn 15)),Qa (Qv 17) (Qh 107 [(Qn 14),(Qn 16)]),Qa (Qv 18) (Qg 2 (Qn 2)),Qa (Qv 19) (Qf 1 false (Qn 18)),Qa (Qv 20) (Qg 2 (Qn 3)),Qa (Qv 21) (Qf 1 false (Qn 20)),Qc (Qv 22) (Qh 108 [(Qn 19),(Qn 21)]),Qa (Qv 23) (MOp.bslice 1 [(Qr Qu 0)] 3 [(0,(Qn 12)),(1,(Qn 17)),(2,(Qn 22))]),Qc (Qv 24) (Qh 106 [(Qn 23)]),Qa (Qv 4) (Qd (Qn 24))]
def Wjt:MC:=.reg true Yrf
def X4o:MC:=.seq Wjq (.seq (.seq Wjr (.cond (Qn 7) (.seq Wjs .ret) .skip)) (.seq Wjt .ret))
attribute [go_sem] Yrc Yrd Yre Yrf
theorem Ws1:KK QP 82 f82 [2,3] X4o [(RV.t 4)] 25:=by refine⟨func82,?_,?_,?_,?_⟩<;>kernel_rfl
theorem Wju:Xaa QP 82=true:=by kernel_rfl
theorem Wjv (h:GI QP gp [(RV.t 4)] res 25 X4o args):Xam QP gp 82 args res:=Ws1.i Wju h
def Yrg:List MO:=[Qa (Qv 2) (Qd (Qo (Qp (Qq (D.str (ByteArray.mk #[]))))))]
def Wjw:MC:=.r0 Yrg
def Yrh:List MO:=[Qa (Qv 3) (Qd (Qn 0)),Qa (Qv 4) (Qd (Qn 0)),Qa (Qv 5) (Qk Leaf.s (Qn 4)),Qa (Qv 6) (MOp.min (Qn 5) (Qo (Qp (Qq (Qr Qu 100))))),Qa (Qv 7) (MOp.slcS (Qn 3) none (Qv (Qn 6))),Qa (Qv 2) (Qd (Qn 7))]
def Wjx:MC:=.r0 Yrh
def Yri:MC:=.seq Wjw (.seq Wjx .ret)
attribute [go_sem] Yrg Yrh
theorem Ws2:KK QP 94 f94 [] Yri [(RV.t 2)] 8:=by refine⟨func94,?_,?_,?_,?_⟩<;>kernel_rfl
theorem Wjy:Xaa QP 94=true:=by kernel_rfl
theorem Wjz (h:GI QP gp [(RV.t 2)] res 8 Yri args):Xam QP gp 94 args res:=Ws2.i Wjy h
def Yrj:List MO:=[Qa (Qv 1) (MOp.ibox (Qn 0)),Qa (Qv 2) (Qd (Qo (Qp (Qq D.nilF))))]
def Wj0:MC:=.r0 Yrj
def Yrk:List MO:=[Qa (Qv 3) (MOp.mkF (Go.Fn.func 121) [(Qn 1)]),Qa (Qv 2) (Qd (Qn 3))]
def Wj1:MC:=.r0 Yrk
def Yrl:MC:=.seq Wj0 (.seq Wj1 .ret)
attribute [go_sem] Yrj Yrk
theorem Ws3:KK QP 95 f95 [1] Yrl [(RV.t 2)] 4:=by refine⟨func95,?_,?_,?_,?_⟩<;>kernel_rfl
theorem Wj2:Xaa QP 95=true:=by kernel_rfl
theorem Wj3 (h:GI QP gp [(RV.t 2)] res 4 Yrl args):Xam QP gp 95 args res:=Ws3.i Wj2 h
def Yrm:List MO:=[Qa (Qv 1) (MOp.ibox (Qn 0)),Qa (Qv 2) (Qd (Qo (Qp (Qq (Qs false)))))]
def Wj4:MC:=.r0 Yrm
def Yrn:List MO:=[Qa (Qv 4) (MOp.build [D.nilF,D.nilF,D.nilF] [(0,(1,(Qo (Qp (Qq (D.fn (Go.Fn.func 122) [])))))),(1,(1,(Qo (Qp (Qq (D.fn (Go.Fn.func 123) [])))))),(2,(1,(Qo (Qp (Qq (D.fn (Go.Fn.func 124) []))))))]),Qa (Qv 3) (MOp.alloc [D.nilF,D.nilF,D.nilF]),Qa none (Ql 3 (Qn 3) (Qn 4))]
def Wj5:MC:=.r0 Yrn
def Yro:List MO:=[Qa (Qv 5) (Qg 0 (Qn 1)),Qa (Qv 6) (Qg 0 (Qn 5)),Qa (Qv 7) (Qf 1 false (Qn 6)),Qa (Qv 8) (Qe Qt Go.BinOp.geq (Qn 7) (Qo (Qp (Qq (Qr Qu 0))))),Qa (Qv 9) (Qd (Qn 8)),Qb 9 true (Qv 10),Qa (Qv 10) (Qg 0 (Qn 1)),Qb 9 true (Qv 11),Qa (Qv 11) (Qg 0 (Qn 10)),Qb 9 true (Qv 12),Qa (Qv 12) (Qf 1 false (Qn 11)),Qb 9 true (Qv 13),Qa (Qv 13) (Qe Qt Go.BinOp.lss (Qn 12) (Qo (Qp (Qq (Qr Qu 3))))),Qa (Qv 14) (Qm (Qn 9) (Qn 13) (Qo (Qp (Qq (Qs false))))),Qa (Qv 15) (Qd (Qn 14)),Qb 15 true (Qv 16),Qa (Qv 16) (Qg 0 (Qn 1)),Qb 15 true (Qv 17),Qa (Qv 17) (Qg 0 (Qn 16)),Qb 15 true (Qv 18),Qa (Qv 18) (Qf 1 false (Qn 17)),Qb 15 true (Qv 19),Qa (Qv 19) (MOp.iadA 3 1 (Qn 3) (Qn 18)),Qb 15 true (Qv 20),Qa (Qv 20) (Qf 1 false (Qn 19)),Qb 15 true (Qv 21),Qa (Qv 21) (Qf 7 true (Qn 1)),Qb 15 true (Qv 22),Qc (Qv 22) (MOp.callv (Qn 20) [(Qn 21)]),Qa (Qv 23) (Qm (Qn 15) (Qn 22) (Qo (Qp (Qq (Qs false))))),Qa (Qv 2) (Qd (Qn 23))]
def Wj6:MC:=.reg true Yro
def Yrp:MC:=.seq Wj4 (.seq Wj5 (.seq Wj6 .ret))
attribute [go_sem] Yrm Yrn Yro
theorem Ws4:KK QP 96 f96 [1] Yrp [(RV.t 2)] 24:=by refine⟨func96,?_,?_,?_,?_⟩<;>kernel_rfl
theorem Wj7:Xaa QP 96=true:=by kernel_rfl
theorem Wj8 (h:GI QP gp [(RV.t 2)] res 24 Yrp args):Xam QP gp 96 args res:=Ws4.i Wj7 h
def Yrq:List MO:=[Qa (Qv 2) (Qd (Qo (Qp (Qq (Qs false)))))]
def Wj9:MC:=.r0 Yrq
def Yrr:List MO:=[Qa (Qv 3) (Qd (Qo (Qp (Qq (Qr Qu 0)))))]
def Wka:MC:=.r0 Yrr
def Yrs:List MO:=[Qa (Qv 5) (Qd (Qn 3)),Qa (Qv 6) (Qd (Qn 0)),Qa (Qv 7) (Qk Qt (Qn 6)),Qa (Qv 8) (Qe Qt Go.BinOp.lss (Qn 5) (Qn 7))]
def Wkb:MC:=.r0 Yrs
def Yrt:List MO:=[Qa (Qv 4) (Qd (Qo (Qp (Qq (Qr Qu 0)))))]
def Wkc:MC:=.r0 Yrt
def Yru:List MO:=[Qa (Qv 11) (Qd (Qn 4)),Qa (Qv 12) (Qd (Qn 3)),Qa (Qv 13) (Qe Qt Go.BinOp.lss (Qn 11) (Qn 12))]
def Wkd:MC:=.r0 Yru
def X4p:List MO:=[Qa (Qv 16) (Qd (Qn 0)),Qa (Qv 17) (Qd (Qn 3)),Qa (Qv 18) (Qj 3 (Qn 16) (Qn 17)),Qa (Qv 19) (Qf 3 true (Qn 18)),Qa (Qv 20) (Qd (Qn 0)),Qa (Qv 21) (Qd (Qn 4)),Qa (Qv 22) (Qj 3 (Qn 20) (Qn 21)),Qa (Qv 23) (Qf 3 true (Qn 22)),Qa (Qv 24) (MOp.eqs false [Qt,Qt,Leaf.s] (Qn 19) (Qn 23))]
def Y0g:MC:=.reg true X4p
def X4q:List MO:=[Qa (Qv 2) (Qd (Qo (Qp (Qq (Qs true)))))]
def Y0h:MC:=.r0 X4q
def X4r:List MO:=[Qa (Qv 14) (Qd (Qn 4)),Qa (Qv 15) (Qe Qt Go.BinOp.add (Qn 14) (Qo (Qp (Qq (Qr Qu 1))))),Qa (Qv 4) (Qd (Qn 15))]
def Y0i:MC:=.r0 X4r
def Y0j:MC:=.seq (.seq Wkd (.cond (Qn 13) .skip (MC.exit 2))) (.seq (.blk 3 (.seq Y0g (.cond (Qn 24) (.seq Y0h .ret) .skip))) Y0i)
def X4s:List MO:=[Qa (Qv 9) (Qd (Qn 3)),Qa (Qv 10) (Qe Qt Go.BinOp.add (Qn 9) (Qo (Qp (Qq (Qr Qu 1))))),Qa (Qv 3) (Qd (Qn 10))]
def Y0k:MC:=.r0 X4s
def Y0l:MC:=.seq (.seq Wkb (.cond (Qn 8) .skip (MC.exit 0))) (.seq (.blk 1 (.seq Wkc (.blk 2 (.loop Y0j)))) Y0k)
def X4t:List MO:=[Qa (Qv 2) (Qd (Qo (Qp (Qq (Qs false)))))]
def Y0m:MC:=.r0 X4t
def X4u:MC:=.seq Wj9 (.seq (.seq Wka (.blk 0 (.loop Y0l))) (.seq Y0m .ret))
attribute [go_sem] Yrq Yrr Yrs Yrt Yru X4p X4q X4r X4s X4t
theorem Ws5:KK QP 99 f99 [] X4u [(RV.t 2)] 25:=by refine⟨func99,?_,?_,?_,?_⟩<;>kernel_rfl
theorem Wke:Xaa QP 99=true:=by kernel_rfl
theorem Wkf (h:GI QP gp [(RV.t 2)] res 25 X4u args):Xam QP gp 99 args res:=Ws5.i Wke h
def X4v:List MO:=[Qa (Qv 2) (MOp.ibox (Qn 0)),Qa (Qv 3) (MOp.ibox (Qn 1)),Qa (Qv 4) (Qd (Qo (Qp (Qq (Qr Qu 0)))))]
def Y0n:MC:=.r0 X4v
def X4w:List MO:=[Qa (Qv 6) (Qg 0 (Qn 2)),Qa (Qv 7) (Qf 1 false (Qn 6)),Qa (Qv 8) (Qg 0 (Qn 3)),Qa (Qv 9) (Qf 1 false (Qn 8)),Qa (Qv 10) (Qe Qt Go.BinOp.lss (Qn 7) (Qn 9)),Qa (Qv 5) (Qd (Qn 10))]
def Y0o:MC:=.r0 X4w
def X4x:List MO:=[Qa (Qv 4) (Qd (Qo (Qp (Qq (Qr Qu (-1))))))]
def Y0p:MC:=.r0 X4x
def X4y:List MO:=[Qa (Qv 12) (Qg 0 (Qn 2)),Qa (Qv 13) (Qf 1 false (Qn 12)),Qa (Qv 14) (Qg 0 (Qn 3)),Qa (Qv 15) (Qf 1 false (Qn 14)),Qa (Qv 16) (Qe Qt Go.BinOp.gtr (Qn 13) (Qn 15)),Qa (Qv 11) (Qd (Qn 16))]
def Y0q:MC:=.r0 X4y
def X4z:List MO:=[Qa (Qv 4) (Qd (Qo (Qp (Qq (Qr Qu 1)))))]
def Y0r:MC:=.r0 X4z
def X40:List MO:=[Qa (Qv 18) (Qg 1 (Qn 2)),Qa (Qv 19) (Qf 1 false (Qn 18)),Qa (Qv 20) (Qg 1 (Qn 3)),Qa (Qv 21) (Qf 1 false (Qn 20)),Qa (Qv 22) (Qe Qt Go.BinOp.lss (Qn 19) (Qn 21)),Qa (Qv 17) (Qd (Qn 22))]
def Y0s:MC:=.r0 X40
def Xuq:List MO:=[Qa (Qv 4) (Qd (Qo (Qp (Qq (Qr Qu (-1))))))]
def Yip:MC:=.r0 Xuq
def Xur:List MO:=[Qa (Qv 24) (Qg 1 (Qn 2)),Qa (Qv 25) (Qf 1 false (Qn 24)),Qa (Qv 26) (Qg 1 (Qn 3)),Qa (Qv 27) (Qf 1 false (Qn 26)),Qa (Qv 28) (Qe Qt Go.BinOp.gtr (Qn 25) (Qn 27)),Qa (Qv 23) (Qd (Qn 28))]
def Yiq:MC:=.r0 Xur
def Xus:List MO:=[Qa (Qv 4) (Qd (Qo (Qp (Qq (Qr Qu 1)))))]
def Yir:MC:=.r0 Xus
def Xut:List MO:=[Qa (Qv 30) (Qg 2 (Qn 2)),Qa (Qv 31) (Qf 1 false (Qn 30)),Qa (Qv 32) (Qg 2 (Qn 3)),Qa (Qv 33) (Qf 1 false (Qn 32)),Qa (Qv 34) (Qe Leaf.s Go.BinOp.lss (Qn 31) (Qn 33)),Qa (Qv 29) (Qd (Qn 34))]
def Yis:MC:=.r0 Xut
def Xuu:List MO:=[Qa (Qv 4) (Qd (Qo (Qp (Qq (Qr Qu (-1))))))]
def Yit:MC:=.r0 Xuu
def Xuv:List MO:=[Qa (Qv 36) (Qg 2 (Qn 2)),Qa (Qv 37) (Qf 1 false (Qn 36)),Qa (Qv 38) (Qg 2 (Qn 3)),Qa (Qv 39) (Qf 1 false (Qn 38)),Qa (Qv 40) (Qe Leaf.s Go.BinOp.gtr (Qn 37) (Qn 39)),Qa (Qv 35) (Qd (Qn 40))]
def Yiu:MC:=.r0 Xuv
def Xuw:List MO:=[Qa (Qv 4) (Qd (Qo (Qp (Qq (Qr Qu 1)))))]
def Yiv:MC:=.r0 Xuw
def Yiw:MC:=.seq Yis (.cond (Qn 29) (.seq Yit .ret) (.seq Yiu (.cond (Qn 35) (.seq Yiv .ret) .skip)))
def Yix:MC:=.cond (Qn 17) (.seq Yip .ret) (.seq Yiq (.cond (Qn 23) (.seq Yir .ret) Yiw))
def Yiy:MC:=.seq Y0q (.cond (Qn 11) (.seq Y0r .ret) (.seq Y0s Yix))
def Xux:List MO:=[Qa (Qv 4) (Qd (Qo (Qp (Qq (Qr Qu 0)))))]
def Yiz:MC:=.r0 Xux
def Yi0:MC:=.seq (.blk 0 (.seq Y0o (.cond (Qn 5) (.seq Y0p .ret) Yiy))) (.seq Yiz .ret)
def Xuy:MC:=.seq Y0n Yi0
attribute [go_sem] X4v X4w X4x X4y X4z X40 Xuq Xur Xus Xut Xuu Xuv Xuw Xux
theorem Wkg:KK QP 104 f104 [2,3] Xuy [(RV.t 4)] 41:=by refine⟨func104,?_,?_,?_,?_⟩<;>kernel_rfl
theorem Y0t:Xaa QP 104=true:=by kernel_rfl
theorem Y0u (h:GI QP gp [(RV.t 4)] res 41 Xuy args):Xam QP gp 104 args res:=Wkg.i Y0t h
def X41:List MO:=[Qa (Qv 6) (Qd (Qo (Qp (Qq (Qr Qu 20)))))]
def Y0v:MC:=.r0 X41
def X42:List MO:=[Qa (Qv 10) (Qd (Qn 6)),Qa (Qv 7) (Qd (Qo (Qp (Qq (Qr Qu 0))))),Qa (Qv 8) (Qd (Qn 10))]
def Y0w:MC:=.r0 X42
def X43:List MO:=[Qa (Qv 11) (Qd (Qn 8)),Qa (Qv 12) (Qd (Qn 1)),Qa (Qv 13) (Qe Qt Go.BinOp.leq (Qn 11) (Qn 12))]
def Y0x:MC:=.r0 X43
def X44:List MO:=[Qa (Qv 14) (Qd (Qn 0)),Qa (Qv 15) (Qd (Qn 7)),Qa (Qv 16) (Qd (Qn 8)),Qa (Qv 17) (Qd (Qn 2)),Qa (Qv 18) (Qh 134 [(Qn 14),(Qn 15),(Qn 16),(Qn 17)])]
def Y0y:MC:=.r0 X44
def X45:List MO:=[Qa (Qv 19) (Qd (Qn 8)),Qa (Qv 7) (Qd (Qn 19))]
def Y0z:MC:=.r0 X45
def X46:List MO:=[Qa (Qv 20) (Qd (Qn 8)),Qa (Qv 21) (Qd (Qn 6)),Qa (Qv 22) (Qe Qt Go.BinOp.add (Qn 20) (Qn 21)),Qa (Qv 8) (Qd (Qn 22))]
def Y00:MC:=.r0 X46
def Yi1:MC:=.seq (.seq Y0x (.cond (Qn 13) .skip (MC.exit 0))) (.blk 1 (.seq Y0y (.seq Y0z Y00)))
def Xuz:List MO:=[Qa (Qv 23) (Qd (Qn 0)),Qa (Qv 24) (Qd (Qn 7)),Qa (Qv 25) (Qd (Qn 1)),Qa (Qv 26) (Qd (Qn 2)),Qa (Qv 27) (Qh 134 [(Qn 23),(Qn 24),(Qn 25),(Qn 26)])]
def Yi2:MC:=.r0 Xuz
def Xu0:List MO:=[Qa (Qv 28) (Qd (Qn 6)),Qa (Qv 29) (Qd (Qn 1)),Qa (Qv 30) (Qe Qt Go.BinOp.lss (Qn 28) (Qn 29))]
def Yi3:MC:=.r0 Xu0
def Xu1:List MO:=[Qa (Qv 31) (Qd (Qn 6)),Qa (Qv 32) (Qe Qt Go.BinOp.mul (Qo (Qp (Qq (Qr Qu 2)))) (Qn 31)),Qa (Qv 7) (Qd (Qo (Qp (Qq (Qr Qu 0))))),Qa (Qv 8) (Qd (Qn 32))]
def Yi4:MC:=.r0 Xu1
def Xu2:List MO:=[Qa (Qv 33) (Qd (Qn 8)),Qa (Qv 34) (Qd (Qn 1)),Qa (Qv 35) (Qe Qt Go.BinOp.leq (Qn 33) (Qn 34))]
def Yi5:MC:=.r0 Xu2
def Xu3:List MO:=[Qa (Qv 36) (Qd (Qn 0)),Qa (Qv 37) (Qd (Qn 7)),Qa (Qv 38) (Qd (Qn 7)),Qa (Qv 39) (Qd (Qn 6)),Qa (Qv 40) (Qe Qt Go.BinOp.add (Qn 38) (Qn 39)),Qa (Qv 41) (Qd (Qn 8)),Qa (Qv 42) (Qd (Qn 2)),Qa (Qv 43) (Qh 135 [(Qn 36),(Qn 37),(Qn 40),(Qn 41),(Qn 42)])]
def Yi6:MC:=.r0 Xu3
def Xu4:List MO:=[Qa (Qv 44) (Qd (Qn 8)),Qa (Qv 7) (Qd (Qn 44))]
def Yi7:MC:=.r0 Xu4
def Xu5:List MO:=[Qa (Qv 45) (Qd (Qn 8)),Qa (Qv 46) (Qd (Qn 6)),Qa (Qv 47) (Qe Qt Go.BinOp.mul (Qo (Qp (Qq (Qr Qu 2)))) (Qn 46)),Qa (Qv 48) (Qe Qt Go.BinOp.add (Qn 45) (Qn 47)),Qa (Qv 8) (Qd (Qn 48))]
def Yi8:MC:=.r0 Xu5
def Yi9:MC:=.seq (.seq Yi5 (.cond (Qn 35) .skip (MC.exit 4))) (.blk 5 (.seq Yi6 (.seq Yi7 Yi8)))
def Xu6:List MO:=[Qa (Qv 49) (Qd (Qn 7)),Qa (Qv 50) (Qd (Qn 6)),Qa (Qv 51) (Qe Qt Go.BinOp.add (Qn 49) (Qn 50)),Qa (Qv 9) (Qd (Qn 51))]
def Yja:MC:=.r0 Xu6
def Xu7:List MO:=[Qa (Qv 52) (Qd (Qn 9)),Qa (Qv 53) (Qd (Qn 1)),Qa (Qv 54) (Qe Qt Go.BinOp.lss (Qn 52) (Qn 53))]
def Yjb:MC:=.r0 Xu7
def Xu8:List MO:=[Qa (Qv 55) (Qd (Qn 0)),Qa (Qv 56) (Qd (Qn 7)),Qa (Qv 57) (Qd (Qn 9)),Qa (Qv 58) (Qd (Qn 1)),Qa (Qv 59) (Qd (Qn 2)),Qa (Qv 60) (Qh 135 [(Qn 55),(Qn 56),(Qn 57),(Qn 58),(Qn 59)])]
def Yjc:MC:=.r0 Xu8
def Xu9:List MO:=[Qa (Qv 61) (Qd (Qn 6)),Qa (Qv 62) (Qe Qt Go.BinOp.mul (Qn 61) (Qo (Qp (Qq (Qr Qu 2))))),Qa (Qv 6) (Qd (Qn 62))]
def Yjd:MC:=.r0 Xu9
def Yje:MC:=.seq (.seq Yja (.seq Yjb (.cond (Qn 54) Yjc .skip))) Yjd
def Yjf:MC:=.seq (.seq Yi3 (.cond (Qn 30) .skip (MC.exit 2))) (.blk 3 (.seq Yi4 (.seq (.blk 4 (.loop Yi9)) Yje)))
def Yjg:MC:=.seq Y0w (.seq (.blk 0 (.loop Yi1)) (.seq Yi2 (.blk 2 (.loop Yjf))))
def Xva:MC:=.seq Y0v Yjg
attribute [go_sem] X41 X42 X43 X44 X45 X46 Xuz Xu0 Xu1 Xu2 Xu3 Xu4 Xu5 Xu6 Xu7 Xu8 Xu9
theorem Wkh:KK QP 105 f105 [] Xva [] 63:=by refine⟨func105,?_,?_,?_,?_⟩<;>kernel_rfl
theorem Y01:Xaa QP 105=true:=by kernel_rfl
theorem Yjh (h:GT QP gp [] pre R 63 Xva args):Tri QP gp 105 args pre R:=Wkh.t h
def X47:List MO:=[Qa (Qv 2) (Qd (Qo (Qp (Qq (Qr Qu 0)))))]
def Y02:MC:=.r0 X47
def X48:List MO:=[Qa (Qv 3) (Qd (Qo (Qp (Qq (Qr Qu 0)))))]
def Y03:MC:=.r0 X48
def X49:List MO:=[Qa (Qv 6) (Qd (Qn 0)),Qa (Qv 7) (Qk Qt (Qn 6)),Qa (Qv 8) (Qd (Qo (Qp (Qq (Qr Qu 0)))))]
def Y04:MC:=.r0 X49
def X5a:List MO:=[Qa (Qv 9) (Qe Qt Go.BinOp.lss (Qn 8) (Qn 7))]
def Y05:MC:=.r0 X5a
def X5b:List MO:=[Qa (Qv 10) (Qj 1 (Qn 6) (Qn 8)),Qa (Qv 11) (Qf 1 false (Qn 10)),Qa (Qv 5) (Qd (Qn 11))]
def Y06:MC:=.r0 X5b
def X5c:List MO:=[Qa (Qv 12) (Qd (Qn 5)),Qa (Qv 13) (Qd (Qn 3)),Qa (Qv 14) (Qe Qt Go.BinOp.neq (Qn 12) (Qn 13))]
def Y07:MC:=.r0 X5c
def X5d:List MO:=[Qa (Qv 15) (Qd (Qn 5)),Qa (Qv 2) (Qd (Qn 15))]
def Y08:MC:=.r0 X5d
def Xvb:List MO:=[Qa (Qv 16) (Qe Qt Go.BinOp.add (Qn 8) (Qo (Qp (Qq (Qr Qu 1))))),Qa (Qv 8) (Qd (Qn 16))]
def Yji:MC:=.r0 Xvb
def Yjj:MC:=.seq (.blk 1 (.seq Y06 (.seq Y07 (.cond (Qn 14) (.seq Y08 .ret) .skip)))) Yji
def Xvc:List MO:=[Qa (Qv 17) (Qd (Qn 3)),Qa (Qv 2) (Qd (Qn 17))]
def Yjk:MC:=.r0 Xvc
def Yjl:MC:=.seq (.seq Y04 (.blk 0 (.loop (.seq Y05 (.seq (.cond (Qn 9) .skip (MC.exit 0)) Yjj))))) (.seq Yjk .ret)
def Xvd:MC:=.seq Y02 (.seq Y03 Yjl)
attribute [go_sem] X47 X48 X49 X5a X5b X5c X5d Xvb Xvc
theorem Wki:KK QP 106 f106 [] Xvd [(RV.t 2)] 18:=by refine⟨func106,?_,?_,?_,?_⟩<;>kernel_rfl
theorem Y09:Xaa QP 106=true:=by kernel_rfl
theorem Y1a (h:GI QP gp [(RV.t 2)] res 18 Xvd args):Xam QP gp 106 args res:=Wki.i Y09 h
def X5e:List MO:=[Qa (Qv 4) (Qd (Qo (Qp (Qq (Qr Qu 0)))))]
def Y1b:MC:=.r0 X5e
def X5f:List MO:=[Qa (Qv 7) (Qd (Qn 0)),Qa (Qv 8) (Qh 136 [(Qn 7)]),Qa (Qv 5) (Qd (Qn 8))]
def Y1c:MC:=.r0 X5f
def X5g:List MO:=[Qa (Qv 9) (Qd (Qn 1)),Qa (Qv 10) (Qh 136 [(Qn 9)]),Qa (Qv 6) (Qd (Qn 10))]
def Y1d:MC:=.r0 X5g
def X5h:List MO:=[Qa (Qv 11) (Qd (Qn 5))]
def Y1e:MC:=.r0 X5h
def X5i:List MO:=[Qa (Qv 12) (Qd (Qn 6))]
def Y1f:MC:=.r0 X5i
def X5j:List MO:=[Qa (Qv 4) (Qd (Qo (Qp (Qq (Qr Qu 0)))))]
def Y1g:MC:=.r0 X5j
def Xve:List MO:=[Qa (Qv 4) (Qd (Qo (Qp (Qq (Qr Qu (-1))))))]
def Yjm:MC:=.r0 Xve
def Yjn:MC:=.seq Y1e (.cond (Qn 11) (.seq (.seq Y1f (.cond (Qn 12) (.seq Y1g .ret) .skip)) (.seq Yjm .ret)) .skip)
def Xvf:List MO:=[Qa (Qv 13) (Qd (Qn 6))]
def Yjo:MC:=.r0 Xvf
def Xvg:List MO:=[Qa (Qv 4) (Qd (Qo (Qp (Qq (Qr Qu 1)))))]
def Yjp:MC:=.r0 Xvg
def Xvh:List MO:=[Qa (Qv 14) (Qd (Qn 0)),Qa (Qv 15) (Qd (Qn 1)),Qa (Qv 16) (Qe Qt Go.BinOp.lss (Qn 14) (Qn 15))]
def Yjq:MC:=.r0 Xvh
def Xvi:List MO:=[Qa (Qv 4) (Qd (Qo (Qp (Qq (Qr Qu (-1))))))]
def Yjr:MC:=.r0 Xvi
def Xvj:List MO:=[Qa (Qv 17) (Qd (Qn 0)),Qa (Qv 18) (Qd (Qn 1)),Qa (Qv 19) (Qe Qt Go.BinOp.gtr (Qn 17) (Qn 18))]
def Yjs:MC:=.r0 Xvj
def Xvk:List MO:=[Qa (Qv 4) (Qd (Qo (Qp (Qq (Qr Qu 1)))))]
def Yjt:MC:=.r0 Xvk
def Xvl:List MO:=[Qa (Qv 4) (Qd (Qo (Qp (Qq (Qr Qu 0)))))]
def Yju:MC:=.r0 Xvl
def Yjv:MC:=.seq (.seq Yjq (.cond (Qn 16) (.seq Yjr .ret) .skip)) (.seq (.seq Yjs (.cond (Qn 19) (.seq Yjt .ret) .skip)) (.seq Yju .ret))
def Yjw:MC:=.seq Yjn (.seq (.seq Yjo (.cond (Qn 13) (.seq Yjp .ret) .skip)) Yjv)
def Xvm:MC:=.seq Y1b (.seq Y1c (.seq Y1d Yjw))
attribute [go_sem] X5e X5f X5g X5h X5i X5j Xve Xvf Xvg Xvh Xvi Xvj Xvk Xvl
theorem Wkj:KK QP 107 f107 [] Xvm [(RV.t 4)] 20:=by refine⟨func107,?_,?_,?_,?_⟩<;>kernel_rfl
theorem Y1h:Xaa QP 107=true:=by kernel_rfl
theorem Y1i (h:GI QP gp [(RV.t 4)] res 20 Xvm args):Xam QP gp 107 args res:=Wkj.i Y1h h
def X5k:List MO:=[Qa (Qv 4) (Qd (Qo (Qp (Qq (Qr Qu 0)))))]
def Y1j:MC:=.r0 X5k
def X5l:List MO:=[Qa (Qv 7) (Qd (Qn 0)),Qa (Qv 8) (Qh 137 [(Qn 7)]),Qa (Qv 5) (Qd (Qn 8))]
def Y1k:MC:=.r0 X5l
def X5m:List MO:=[Qa (Qv 9) (Qd (Qn 1)),Qa (Qv 10) (Qh 137 [(Qn 9)]),Qa (Qv 6) (Qd (Qn 10))]
def Y1l:MC:=.r0 X5m
def X5n:List MO:=[Qa (Qv 11) (Qd (Qn 5))]
def Y1m:MC:=.r0 X5n
def X5o:List MO:=[Qa (Qv 12) (Qd (Qn 6))]
def Y1n:MC:=.r0 X5o
def X5p:List MO:=[Qa (Qv 4) (Qd (Qo (Qp (Qq (Qr Qu 0)))))]
def Y1o:MC:=.r0 X5p
def Xvn:List MO:=[Qa (Qv 4) (Qd (Qo (Qp (Qq (Qr Qu (-1))))))]
def Yjx:MC:=.r0 Xvn
def Yjy:MC:=.seq Y1m (.cond (Qn 11) (.seq (.seq Y1n (.cond (Qn 12) (.seq Y1o .ret) .skip)) (.seq Yjx .ret)) .skip)
def Xvo:List MO:=[Qa (Qv 13) (Qd (Qn 6))]
def Yjz:MC:=.r0 Xvo
def Xvp:List MO:=[Qa (Qv 4) (Qd (Qo (Qp (Qq (Qr Qu 1)))))]
def Yj0:MC:=.r0 Xvp
def Xvq:List MO:=[Qa (Qv 14) (Qd (Qn 0)),Qa (Qv 15) (Qd (Qn 1)),Qa (Qv 16) (Qe Leaf.s Go.BinOp.lss (Qn 14) (Qn 15))]
def Yj1:MC:=.r0 Xvq
def Xvr:List MO:=[Qa (Qv 4) (Qd (Qo (Qp (Qq (Qr Qu (-1))))))]
def Yj2:MC:=.r0 Xvr
def Xvs:List MO:=[Qa (Qv 17) (Qd (Qn 0)),Qa (Qv 18) (Qd (Qn 1)),Qa (Qv 19) (Qe Leaf.s Go.BinOp.gtr (Qn 17) (Qn 18))]
def Yj3:MC:=.r0 Xvs
def Xvt:List MO:=[Qa (Qv 4) (Qd (Qo (Qp (Qq (Qr Qu 1)))))]
def Yj4:MC:=.r0 Xvt
def Xvu:List MO:=[Qa (Qv 4) (Qd (Qo (Qp (Qq (Qr Qu 0)))))]
def Yj5:MC:=.r0 Xvu
def Yj6:MC:=.seq (.seq Yj1 (.cond (Qn 16) (.seq Yj2 .ret) .skip)) (.seq (.seq Yj3 (.cond (Qn 19) (.seq Yj4 .ret) .skip)) (.seq Yj5 .ret))
def Yj7:MC:=.seq Yjy (.seq (.seq Yjz (.cond (Qn 13) (.seq Yj0 .ret) .skip)) Yj6)
def Xvv:MC:=.seq Y1j (.seq Y1k (.seq Y1l Yj7))
attribute [go_sem] X5k X5l X5m X5n X5o X5p Xvn Xvo Xvp Xvq Xvr Xvs Xvt Xvu
theorem Wkk:KK QP 108 f108 [] Xvv [(RV.t 4)] 20:=by refine⟨func108,?_,?_,?_,?_⟩<;>kernel_rfl
theorem Y1p:Xaa QP 108=true:=by kernel_rfl
theorem Y1q (h:GI QP gp [(RV.t 4)] res 20 Xvv args):Xam QP gp 108 args res:=Wkk.i Y1p h
def X5q:List MO:=[Qa (Qv 5) (Qg 1 (Qn 1)),Qa (Qv 6) (Qf 1 false (Qn 5)),Qa (Qv 7) (Qk Qt (Qn 6)),Qa (Qv 8) (Qd (Qo (Qp (Qq (Qr Qu 0)))))]
def Y1r:MC:=.r0 X5q
def X5r:List MO:=[Qa (Qv 9) (Qe Qt Go.BinOp.lss (Qn 8) (Qn 7))]
def Y1s:MC:=.r0 X5r
def X5s:List MO:=[Qa (Qv 10) (Qd (Qn 8)),Qa (Qv 11) (Qj 6 (Qn 6) (Qn 8)),Qa (Qv 12) (Qf 6 true (Qn 11)),Qa (Qv 4) (MOp.alloc [(Qr Qu 0),(Qr Qu 0),(Qr Qu 0),(D.str (ByteArray.mk #[])),(D.sl []),(D.sl [])]),Qa (Qv 3) (Qd (Qn 10)),Qa none (Ql 6 (Qn 4) (Qn 12))]
def Y1t:MC:=.r0 X5s
def X5t:List MO:=[Qa (Qv 13) (Qd (Qn 0)),Qa (Qv 14) (Qd (Qn 3)),Qa (Qv 15) (Qf 6 true (Qn 4)),Qa (Qv 16) (Qg 1 (Qn 1)),Qa (Qv 17) (Qf 1 false (Qn 16)),Qa (Qv 18) (Qk Qt (Qn 17)),Qa (Qv 19) (MOp.build [(Qr Qu 0),(Qr Qu 0),(Qr Qu 0),(D.str (ByteArray.mk #[])),(D.sl []),(D.sl []),(Qr Qu 0)] [(0,(6,(Qn 15))),(6,(1,(Qn 18)))]),Qa (Qv 20) (MOp.callv (Qn 13) [(Qn 14),(Qn 19)]),Qa (Qv 21) (MOp.not (Qn 20))]
def Y1u:MC:=.r0 X5t
def Xvw:List MO:=[Qa (Qv 22) (Qe Qt Go.BinOp.add (Qn 8) (Qo (Qp (Qq (Qr Qu 1))))),Qa (Qv 8) (Qd (Qn 22))]
def Yj8:MC:=.r0 Xvw
def Yj9:MC:=.seq Y1s (.seq (.cond (Qn 9) .skip (MC.exit 0)) (.seq (.blk 1 (.seq Y1t (.seq Y1u (.cond (Qn 21) (MC.exit 0) .skip)))) Yj8))
def Xvx:MC:=.scope (.seq .skip (.seq Y1r (.blk 0 (.loop Yj9))))
attribute [go_sem] X5q X5r X5s X5t Xvw
theorem Wkl:KK QP 121 f121 [] Xvx [] 23:=by refine⟨func121,?_,?_,?_,?_⟩<;>kernel_rfl
theorem Y1v:Xaa QP 121=true:=by kernel_rfl
theorem Yka (h:GT QP gp [] pre R 23 Xvx args):Tri QP gp 121 args pre R:=Wkl.t h
def X5u:List MO:=[Qa (Qv 1) (MOp.ibox (Qn 0)),Qa (Qv 2) (Qd (Qo (Qp (Qq (Qs false)))))]
def Y1w:MC:=.r0 X5u
def X5v:List MO:=[Qa (Qv 3) (Qg 0 (Qn 1)),Qa (Qv 4) (Qg 1 (Qn 3)),Qa (Qv 5) (Qf 3 true (Qn 4)),Qa (Qv 6) (Qh 127 [(Qn 5)]),Qa (Qv 7) (Qg 0 (Qn 1)),Qa (Qv 8) (Qg 4 (Qn 7)),Qa (Qv 9) (Qf 1 false (Qn 8)),Qa (Qv 10) (Qk Qt (Qn 9)),Qa (Qv 11) (Qe Qt Go.BinOp.eql (Qn 10) (Qo (Qp (Qq (Qr Qu 0))))),Qa (Qv 12) (Qg 0 (Qn 1)),Qa (Qv 13) (Qg 5 (Qn 12)),Qa (Qv 14) (Qf 1 false (Qn 13)),Qa (Qv 15) (Qk Qt (Qn 14)),Qa (Qv 16) (Qe Qt Go.BinOp.eql (Qn 15) (Qo (Qp (Qq (Qr Qu 0))))),Qa (Qv 17) (MOp.bslice 1 [(Qs false)] 3 [(0,(Qn 6)),(1,(Qn 11)),(2,(Qn 16))]),Qc (Qv 18) (Qh 143 [(Qn 17)]),Qa (Qv 2) (Qd (Qn 18))]
def Y1x:MC:=.reg true X5v
def X5w:MC:=.seq Y1w (.seq Y1x .ret)
attribute [go_sem] X5u X5v
theorem Wkm:KK QP 122 f122 [1] X5w [(RV.t 2)] 19:=by refine⟨func122,?_,?_,?_,?_⟩<;>kernel_rfl
theorem Y1y:Xaa QP 122=true:=by kernel_rfl
theorem Y1z (h:GI QP gp [(RV.t 2)] res 19 X5w args):Xam QP gp 122 args res:=Wkm.i Y1y h
def X5x:List MO:=[Qa (Qv 1) (MOp.ibox (Qn 0)),Qa (Qv 2) (Qd (Qo (Qp (Qq (Qs false)))))]
def Y10:MC:=.r0 X5x
def X5y:List MO:=[Qa (Qv 3) (Qg 0 (Qn 1)),Qa (Qv 4) (Qg 1 (Qn 3)),Qa (Qv 5) (Qf 3 true (Qn 4)),Qa (Qv 6) (MOp.build [(Qr Qu 0),(Qr Qu 0),(D.str (ByteArray.mk #[]))] []),Qa (Qv 7) (MOp.eqs false [Qt,Qt,Leaf.s] (Qn 5) (Qn 6)),Qa (Qv 8) (Qg 0 (Qn 1)),Qa (Qv 9) (Qg 4 (Qn 8)),Qa (Qv 10) (Qf 1 false (Qn 9)),Qa (Qv 11) (Qk Qt (Qn 10)),Qa (Qv 12) (Qe Qt Go.BinOp.eql (Qn 11) (Qo (Qp (Qq (Qr Qu 0))))),Qa (Qv 13) (Qf 7 true (Qn 1)),Qa (Qv 14) (Qh 144 [(Qn 13)]),Qa (Qv 15) (MOp.bslice 1 [(Qs false)] 3 [(0,(Qn 7)),(1,(Qn 12)),(2,(Qn 14))]),Qc (Qv 16) (Qh 143 [(Qn 15)]),Qa (Qv 2) (Qd (Qn 16))]
def Y11:MC:=.reg true X5y
def X5z:MC:=.seq Y10 (.seq Y11 .ret)
attribute [go_sem] X5x X5y
theorem Wkn:KK QP 123 f123 [1] X5z [(RV.t 2)] 17:=by refine⟨func123,?_,?_,?_,?_⟩<;>kernel_rfl
theorem Y12:Xaa QP 123=true:=by kernel_rfl
theorem Y13 (h:GI QP gp [(RV.t 2)] res 17 X5z args):Xam QP gp 123 args res:=Wkn.i Y12 h
def X50:List MO:=[Qa (Qv 1) (MOp.ibox (Qn 0)),Qa (Qv 2) (Qd (Qo (Qp (Qq (Qs false)))))]
def Y14:MC:=.r0 X50
def X51:List MO:=[Qa (Qv 3) (Qg 0 (Qn 1)),Qa (Qv 4) (Qg 1 (Qn 3)),Qa (Qv 5) (Qf 3 true (Qn 4)),Qa (Qv 6) (MOp.build [(Qr Qu 0),(Qr Qu 0),(D.str (ByteArray.mk #[]))] []),Qa (Qv 7) (MOp.eqs false [Qt,Qt,Leaf.s] (Qn 5) (Qn 6)),Qa (Qv 8) (Qf 7 true (Qn 1)),Qa (Qv 9) (Qh 79 [(Qn 8)]),Qa (Qv 10) (Qf 7 true (Qn 1)),Qa (Qv 11) (Qh 145 [(Qn 10)]),Qa (Qv 12) (Qf 7 true (Qn 1)),Qa (Qv 13) (Qh 144 [(Qn 12)]),Qa (Qv 14) (MOp.bslice 1 [(Qs false)] 4 [(0,(Qn 7)),(1,(Qn 9)),(2,(Qn 11)),(3,(Qn 13))]),Qc (Qv 15) (Qh 143 [(Qn 14)]),Qa (Qv 2) (Qd (Qn 15))]
def Y15:MC:=.reg true X51
def X52:MC:=.seq Y14 (.seq Y15 .ret)
attribute [go_sem] X50 X51
theorem Wko:KK QP 124 f124 [1] X52 [(RV.t 2)] 16:=by refine⟨func124,?_,?_,?_,?_⟩<;>kernel_rfl
theorem Y16:Xaa QP 124=true:=by kernel_rfl
theorem Y17 (h:GI QP gp [(RV.t 2)] res 16 X52 args):Xam QP gp 124 args res:=Wko.i Y16 h
def X53:List MO:=[Qa (Qv 1) (MOp.ibox (Qn 0)),Qa (Qv 2) (Qd (Qo (Qp (Qq (Qs false)))))]
def Y18:MC:=.r0 X53
def X54:List MO:=[Qa (Qv 3) (Qg 0 (Qn 1)),Qa (Qv 4) (Qf 1 false (Qn 3))]
def Y19:MC:=.r0 X54
def X55:List MO:=[Qa (Qv 6) (Qe Qt Go.BinOp.eql (Qn 4) (Qo (Qp (Qq (Qr Qu 0))))),Qa (Qv 5) (Qd (Qn 6))]
def Y2a:MC:=.r0 X55
def X56:List MO:=[Qa (Qv 7) (Qf 3 true (Qn 1)),Qa (Qv 8) (MOp.build [(Qr Qu 0),(Qr Qu 0),(D.str (ByteArray.mk #[]))] []),Qa (Qv 9) (MOp.eqs false [Qt,Qt,Leaf.s] (Qn 7) (Qn 8)),Qa (Qv 2) (Qd (Qn 9))]
def Y2b:MC:=.r0 X56
def X57:List MO:=[Qa (Qv 11) (Qe Qt Go.BinOp.eql (Qn 4) (Qo (Qp (Qq (Qr Qu 1))))),Qa (Qv 10) (Qd (Qn 11))]
def Y2c:MC:=.r0 X57
def X58:List MO:=[Qa (Qv 12) (Qg 2 (Qn 1)),Qa (Qv 13) (Qf 1 false (Qn 12)),Qa (Qv 14) (Qe Leaf.s Go.BinOp.eql (Qn 13) (Qo (Qp (Qq (D.str (ByteArray.mk #[])))))),Qa (Qv 15) (Qd (Qn 14)),Qb 15 true (Qv 16),Qa (Qv 16) (Qg 1 (Qn 1)),Qb 15 true (Qv 17),Qa (Qv 17) (Qf 1 false (Qn 16)),Qb 15 true (Qv 18),Qa (Qv 18) (Qe Qt Go.BinOp.eql (Qn 17) (Qo (Qp (Qq (Qr Qu 0))))),Qb 15 true (Qv 19),Qa (Qv 19) (Qd (Qn 18)),Qb 19 false (Qv 20),Qa (Qv 20) (Qg 1 (Qn 1)),Qb 19 false (Qv 21),Qa (Qv 21) (Qf 1 false (Qn 20)),Qb 19 false (Qv 22),Qa (Qv 22) (Qe Qt Go.BinOp.eql (Qn 21) (Qo (Qp (Qq (Qr Qu 1))))),Qb 15 true (Qv 23),Qa (Qv 23) (Qm (Qn 19) (Qo (Qp (Qq (Qs true)))) (Qn 22)),Qa (Qv 24) (Qm (Qn 15) (Qn 23) (Qo (Qp (Qq (Qs false))))),Qa (Qv 2) (Qd (Qn 24))]
def Y2d:MC:=.r0 X58
def Xvy:List MO:=[Qa (Qv 26) (Qe Qt Go.BinOp.eql (Qn 4) (Qo (Qp (Qq (Qr Qu 2))))),Qa (Qv 25) (Qd (Qn 26))]
def Ykb:MC:=.r0 Xvy
def Xvz:List MO:=[Qa (Qv 27) (Qg 2 (Qn 1)),Qa (Qv 28) (Qf 1 false (Qn 27)),Qa (Qv 29) (Qe Leaf.s Go.BinOp.eql (Qn 28) (Qo (Qp (Qq (D.str (ByteArray.mk #[])))))),Qa (Qv 30) (Qd (Qn 29)),Qb 30 true (Qv 31),Qa (Qv 31) (Qg 1 (Qn 1)),Qb 30 true (Qv 32),Qa (Qv 32) (Qf 1 false (Qn 31)),Qb 30 true (Qv 33),Qa (Qv 33) (Qe Qt Go.BinOp.geq (Qn 32) (Qo (Qp (Qq (Qr Qu (-999999999999999)))))),Qa (Qv 34) (Qm (Qn 30) (Qn 33) (Qo (Qp (Qq (Qs false))))),Qa (Qv 35) (Qd (Qn 34)),Qb 35 true (Qv 36),Qa (Qv 36) (Qg 1 (Qn 1)),Qb 35 true (Qv 37),Qa (Qv 37) (Qf 1 false (Qn 36)),Qb 35 true (Qv 38),Qa (Qv 38) (Qe Qt Go.BinOp.leq (Qn 37) (Qo (Qp (Qq (Qr Qu 999999999999999))))),Qa (Qv 39) (Qm (Qn 35) (Qn 38) (Qo (Qp (Qq (Qs false))))),Qa (Qv 2) (Qd (Qn 39))]
def Ykc:MC:=.r0 Xvz
def Xv0:List MO:=[Qa (Qv 41) (Qe Qt Go.BinOp.eql (Qn 4) (Qo (Qp (Qq (Qr Qu 3))))),Qa (Qv 40) (Qd (Qn 41))]
def Ykd:MC:=.r0 Xv0
def Xv1:List MO:=[Qa (Qv 42) (Qg 1 (Qn 1)),Qa (Qv 43) (Qf 1 false (Qn 42)),Qa (Qv 44) (Qe Qt Go.BinOp.eql (Qn 43) (Qo (Qp (Qq (Qr Qu 0))))),Qa (Qv 45) (Qd (Qn 44)),Qb 45 true (Qv 46),Qa (Qv 46) (Qg 2 (Qn 1)),Qb 45 true (Qv 47),Qa (Qv 47) (Qf 1 false (Qn 46)),Qb 45 true (Qv 48),Qa (Qv 48) (Qh 147 [(Qn 47)]),Qa (Qv 49) (Qm (Qn 45) (Qn 48) (Qo (Qp (Qq (Qs false))))),Qa (Qv 2) (Qd (Qn 49))]
def Yke:MC:=.r0 Xv1
def Ykf:MC:=.seq Ykb (.cond (Qn 25) (.seq Ykc .ret) (.seq Ykd (.cond (Qn 40) (.seq Yke .ret) .skip)))
def Ykg:MC:=.cond (Qn 5) (.seq Y2b .ret) (.seq Y2c (.cond (Qn 10) (.seq Y2d .ret) Ykf))
def Xv2:List MO:=[Qa (Qv 2) (Qd (Qo (Qp (Qq (Qs false)))))]
def Ykh:MC:=.r0 Xv2
def Yki:MC:=.seq (.seq Y19 (.blk 0 (.seq Y2a Ykg))) (.seq Ykh .ret)
def Xv3:MC:=.seq Y18 Yki
attribute [go_sem] X53 X54 X55 X56 X57 X58 Xvy Xvz Xv0 Xv1 Xv2
theorem Wkp:KK QP 127 f127 [1] Xv3 [(RV.t 2)] 50:=by refine⟨func127,?_,?_,?_,?_⟩<;>kernel_rfl
theorem Y2e:Xaa QP 127=true:=by kernel_rfl
theorem Y2f (h:GI QP gp [(RV.t 2)] res 50 Xv3 args):Xam QP gp 127 args res:=Wkp.i Y2e h
def X59:List MO:=[Qa (Qv 10) (Qd (Qn 1)),Qa (Qv 11) (Qe Qt Go.BinOp.add (Qn 10) (Qo (Qp (Qq (Qr Qu 1))))),Qa (Qv 8) (Qd (Qn 11))]
def Y2g:MC:=.r0 X59
def X6a:List MO:=[Qa (Qv 12) (Qd (Qn 8)),Qa (Qv 13) (Qd (Qn 2)),Qa (Qv 14) (Qe Qt Go.BinOp.lss (Qn 12) (Qn 13))]
def Y2h:MC:=.r0 X6a
def X6b:List MO:=[Qa (Qv 17) (Qd (Qn 8)),Qa (Qv 9) (Qd (Qn 17))]
def Y2i:MC:=.r0 X6b
def X6c:List MO:=[Qa (Qv 18) (Qd (Qn 9)),Qa (Qv 19) (Qd (Qn 1)),Qa (Qv 20) (Qe Qt Go.BinOp.gtr (Qn 18) (Qn 19)),Qa (Qv 21) (Qd (Qn 20)),Qb 21 true (Qv 22),Qa (Qv 22) (Qd (Qn 3)),Qb 21 true (Qv 23),Qa (Qv 23) (Qd (Qn 0)),Qb 21 true (Qv 24),Qa (Qv 24) (Qd (Qn 9)),Qb 21 true (Qv 25),Qa (Qv 25) (Qj 4 (Qn 23) (Qn 24)),Qb 21 true (Qv 26),Qa (Qv 26) (Qf 4 true (Qn 25)),Qb 21 true (Qv 27),Qa (Qv 27) (Qd (Qn 0)),Qb 21 true (Qv 28),Qa (Qv 28) (Qd (Qn 9)),Qb 21 true (Qv 29),Qa (Qv 29) (Qe Qt Go.BinOp.sub (Qn 28) (Qo (Qp (Qq (Qr Qu 1))))),Qb 21 true (Qv 30),Qa (Qv 30) (Qj 4 (Qn 27) (Qn 29)),Qb 21 true (Qv 31),Qa (Qv 31) (Qf 4 true (Qn 30)),Qb 21 true (Qv 32),Qc (Qv 32) (MOp.callv (Qn 22) [(Qn 26),(Qn 31)]),Qb 21 true (Qv 33),Qa (Qv 33) (Qe Qt Go.BinOp.lss (Qn 32) (Qo (Qp (Qq (Qr Qu 0))))),Qa (Qv 34) (Qm (Qn 21) (Qn 33) (Qo (Qp (Qq (Qs false)))))]
def Y2j:MC:=.reg true X6c
def Xv4:List MO:=[Qa (Qv 37) (Qd (Qn 0)),Qa (Qv 38) (Qd (Qn 9)),Qa (Qv 39) (Qd (Qn 0)),Qa (Qv 40) (Qd (Qn 9)),Qa (Qv 41) (Qe Qt Go.BinOp.sub (Qn 40) (Qo (Qp (Qq (Qr Qu 1))))),Qa (Qv 42) (Qd (Qn 0)),Qa (Qv 43) (Qd (Qn 9)),Qa (Qv 44) (Qe Qt Go.BinOp.sub (Qn 43) (Qo (Qp (Qq (Qr Qu 1))))),Qa (Qv 45) (Qj 4 (Qn 42) (Qn 44)),Qa (Qv 46) (Qf 4 true (Qn 45)),Qa (Qv 47) (Qd (Qn 0)),Qa (Qv 48) (Qd (Qn 9)),Qa (Qv 49) (Qj 4 (Qn 47) (Qn 48)),Qa (Qv 50) (Qf 4 true (Qn 49)),Qa (Qv 51) (Qj 4 (Qn 37) (Qn 38)),Qa none (Ql 4 (Qn 51) (Qn 46)),Qa (Qv 52) (Qj 4 (Qn 39) (Qn 41)),Qa none (Ql 4 (Qn 52) (Qn 50))]
def Ykj:MC:=.reg true Xv4
def Xv5:List MO:=[Qa (Qv 35) (Qd (Qn 9)),Qa (Qv 36) (Qe Qt Go.BinOp.sub (Qn 35) (Qo (Qp (Qq (Qr Qu 1))))),Qa (Qv 9) (Qd (Qn 36))]
def Ykk:MC:=.r0 Xv5
def Ykl:MC:=.seq Y2i (.blk 2 (.loop (.seq (.seq Y2j (.cond (Qn 34) .skip (MC.exit 2))) (.seq (.blk 3 Ykj) Ykk))))
def Xv6:List MO:=[Qa (Qv 15) (Qd (Qn 8)),Qa (Qv 16) (Qe Qt Go.BinOp.add (Qn 15) (Qo (Qp (Qq (Qr Qu 1))))),Qa (Qv 8) (Qd (Qn 16))]
def Ykm:MC:=.r0 Xv6
def Xv7:MC:=.seq Y2g (.blk 0 (.loop (.seq (.seq Y2h (.cond (Qn 14) .skip (MC.exit 0))) (.seq (.blk 1 Ykl) Ykm))))
attribute [go_sem] X59 X6a X6b X6c Xv4 Xv5 Xv6
theorem Wkq:KK QP 134 f134 [] Xv7 [] 53:=by refine⟨func134,?_,?_,?_,?_⟩<;>kernel_rfl
theorem Y2k:Xaa QP 134=true:=by kernel_rfl
theorem Ykn (h:GT QP gp [] pre R 53 Xv7 args):Tri QP gp 134 args pre R:=Wkq.t h
def X6d:List MO:=[Qa (Qv 2) (Qd (Qo (Qp (Qq (Qs false)))))]
def Y2l:MC:=.r0 X6d
def X6e:List MO:=[Qa (Qv 3) (Qd (Qn 0)),Qa (Qv 4) (Qd (Qn 0)),Qa (Qv 5) (Qe Qt Go.BinOp.neq (Qn 3) (Qn 4)),Qa (Qv 2) (Qd (Qn 5))]
def Y2m:MC:=.r0 X6e
def X6f:MC:=.seq Y2l (.seq Y2m .ret)
attribute [go_sem] X6d X6e
theorem Wkr:KK QP 136 f136 [] X6f [(RV.t 2)] 6:=by refine⟨func136,?_,?_,?_,?_⟩<;>kernel_rfl
theorem Y2n:Xaa QP 136=true:=by kernel_rfl
theorem Y2o (h:GI QP gp [(RV.t 2)] res 6 X6f args):Xam QP gp 136 args res:=Wkr.i Y2n h
def X6g:List MO:=[Qa (Qv 2) (Qd (Qo (Qp (Qq (Qs false)))))]
def Y2p:MC:=.r0 X6g
def X6h:List MO:=[Qa (Qv 3) (Qd (Qn 0)),Qa (Qv 4) (Qd (Qn 0)),Qa (Qv 5) (Qe Leaf.s Go.BinOp.neq (Qn 3) (Qn 4)),Qa (Qv 2) (Qd (Qn 5))]
def Y2q:MC:=.r0 X6h
def X6i:MC:=.seq Y2p (.seq Y2q .ret)
attribute [go_sem] X6g X6h
theorem Wks:KK QP 137 f137 [] X6i [(RV.t 2)] 6:=by refine⟨func137,?_,?_,?_,?_⟩<;>kernel_rfl
theorem Y2r:Xaa QP 137=true:=by kernel_rfl
theorem Y2s (h:GI QP gp [(RV.t 2)] res 6 X6i args):Xam QP gp 137 args res:=Wks.i Y2r h
def X6j:List MO:=[Qa (Qv 2) (Qd (Qo (Qp (Qq (Qs false)))))]
def Y2t:MC:=.r0 X6j
def X6k:List MO:=[Qa (Qv 3) (Qd (Qn 0)),Qa (Qv 4) (Qh 154 [(Qn 3),(Qo (Qp (Qq (Qs false))))]),Qa (Qv 5) (MOp.not (Qn 4)),Qa (Qv 2) (Qd (Qn 5))]
def Y2u:MC:=.r0 X6k
def X6l:MC:=.seq Y2t (.seq Y2u .ret)
attribute [go_sem] X6j X6k
theorem Wkt:KK QP 143 f143 [] X6l [(RV.t 2)] 6:=by refine⟨func143,?_,?_,?_,?_⟩<;>kernel_rfl
theorem Y2v:Xaa QP 143=true:=by kernel_rfl
theorem Y2w (h:GI QP gp [(RV.t 2)] res 6 X6l args):Xam QP gp 143 args res:=Wkt.i Y2v h
def X6m:List MO:=[Qa (Qv 1) (MOp.ibox (Qn 0)),Qa (Qv 2) (Qd (Qo (Qp (Qq (Qs false)))))]
def Y2x:MC:=.r0 X6m
def X6n:List MO:=[Qa (Qv 4) (MOp.mkF (Go.Fn.func 155) [(Qn 1)]),Qa (Qv 3) (Qd (Qn 4))]
def Y2y:MC:=.r0 X6n
def X6o:List MO:=[Qa (Qv 5) (Qg 0 (Qn 1)),Qa (Qv 6) (Qg 5 (Qn 5)),Qa (Qv 7) (Qf 1 false (Qn 6)),Qa (Qv 8) (Qd (Qn 3)),Qa (Qv 9) (Qh 156 [(Qn 7),(Qn 8)]),Qa (Qv 10) (MOp.not (Qn 9)),Qa (Qv 2) (Qd (Qn 10))]
def Y2z:MC:=.r0 X6o
def X6p:MC:=.seq Y2x (.seq Y2y (.seq Y2z .ret))
attribute [go_sem] X6m X6n X6o
theorem Wku:KK QP 144 f144 [1] X6p [(RV.t 2)] 11:=by refine⟨func144,?_,?_,?_,?_⟩<;>kernel_rfl
theorem Y20:Xaa QP 144=true:=by kernel_rfl
theorem Y21 (h:GI QP gp [(RV.t 2)] res 11 X6p args):Xam QP gp 144 args res:=Wku.i Y20 h
def X6q:List MO:=[Qa (Qv 1) (MOp.ibox (Qn 0)),Qa (Qv 2) (Qd (Qo (Qp (Qq (Qs false)))))]
def Y22:MC:=.r0 X6q
def X6r:List MO:=[Qa (Qv 3) (Qd (Qo (Qp (Qq (D.fn (Go.Fn.func 157) [])))))]
def Y23:MC:=.r0 X6r
def X6s:List MO:=[Qa (Qv 4) (Qg 0 (Qn 1)),Qa (Qv 5) (Qg 4 (Qn 4)),Qa (Qv 6) (Qf 1 false (Qn 5)),Qa (Qv 7) (Qd (Qn 3)),Qa (Qv 8) (Qh 158 [(Qn 6),(Qn 7)]),Qa (Qv 9) (MOp.not (Qn 8)),Qa (Qv 10) (Qd (Qn 9)),Qb 10 true (Qv 11),Qa (Qv 11) (Qg 0 (Qn 1)),Qb 10 true (Qv 12),Qa (Qv 12) (Qg 4 (Qn 11)),Qb 10 true (Qv 13),Qa (Qv 13) (Qf 1 false (Qn 12)),Qb 10 true (Qv 14),Qa (Qv 14) (Qh 159 [(Qn 13)]),Qb 10 true (Qv 15),Qa (Qv 15) (MOp.not (Qn 14)),Qa (Qv 16) (Qm (Qn 10) (Qn 15) (Qo (Qp (Qq (Qs false))))),Qa (Qv 2) (Qd (Qn 16))]
def Y24:MC:=.r0 X6s
def X6t:MC:=.seq Y22 (.seq Y23 (.seq Y24 .ret))
attribute [go_sem] X6q X6r X6s
theorem Wkv:KK QP 145 f145 [1] X6t [(RV.t 2)] 17:=by refine⟨func145,?_,?_,?_,?_⟩<;>kernel_rfl
theorem Y25:Xaa QP 145=true:=by kernel_rfl
theorem Y26 (h:GI QP gp [(RV.t 2)] res 17 X6t args):Xam QP gp 145 args res:=Wkv.i Y25 h
def X6u:List MO:=[Qa (Qv 2) (Qd (Qo (Qp (Qq (Qs false)))))]
def Y27:MC:=.r0 X6u
def X6v:List MO:=[Qa (Qv 7) (Qd (Qn 0)),Qa (Qv 8) (MOp.rng (Qn 7))]
def Y28:MC:=.r0 X6v
def X6w:List MO:=[Qa (Qv 9) (MOp.nxt (Qn 8)),Qa (Qv 10) (Qi (Qn 9) 0)]
def Y29:MC:=.r0 X6w
def X6x:List MO:=[Qa (Qv 11) (Qi (Qn 9) 1),Qa (Qv 12) (Qi (Qn 9) 2),Qa (Qv 3) (Qd (Qn 11)),Qa (Qv 4) (Qd (Qn 12))]
def Y3a:MC:=.r0 X6x
def X6y:List MO:=[Qa (Qv 14) (Qd (Qn 0)),Qa (Qv 15) (Qd (Qn 3)),Qa (Qv 16) (MOp.slcS (Qn 14) (Qv (Qn 15)) none),Qa (Qv 17) (Qh 161 [(Qn 16)]),Qa (Qv 13) (Qd (Qn 17)),Qa (Qv 18) (Qi (Qn 13) 0),Qa (Qv 19) (Qi (Qn 13) 1),Qa (Qv 5) (Qd (Qn 18)),Qa (Qv 6) (Qd (Qn 19))]
def Y3b:MC:=.r0 X6y
def X6z:List MO:=[Qa (Qv 20) (Qd (Qn 4)),Qa (Qv 21) (Qe Qt Go.BinOp.eql (Qn 20) (Qo (Qp (Qq (Qr Go.IntKind.i32 65533))))),Qa (Qv 22) (Qd (Qn 21)),Qb 22 true (Qv 23),Qa (Qv 23) (Qd (Qn 6)),Qb 22 true (Qv 24),Qa (Qv 24) (Qe Qt Go.BinOp.eql (Qn 23) (Qo (Qp (Qq (Qr Qu 1))))),Qa (Qv 25) (Qm (Qn 22) (Qn 24) (Qo (Qp (Qq (Qs false)))))]
def Y3c:MC:=.r0 X6z
def X60:List MO:=[Qa (Qv 2) (Qd (Qo (Qp (Qq (Qs false)))))]
def Y3d:MC:=.r0 X60
def Yko:MC:=.seq Y3a (.seq Y3b (.seq Y3c (.cond (Qn 25) (.seq Y3d .ret) .skip)))
def Xv8:List MO:=[Qa (Qv 2) (Qd (Qo (Qp (Qq (Qs true)))))]
def Ykp:MC:=.r0 Xv8
def Ykq:MC:=.seq (.seq Y28 (.blk 0 (.loop (.seq Y29 (.seq (.cond (Qn 10) .skip (MC.exit 0)) (.blk 1 Yko)))))) (.seq Ykp .ret)
def Xv9:MC:=.seq Y27 Ykq
attribute [go_sem] X6u X6v X6w X6x X6y X6z X60 Xv8
theorem Wkw:KK QP 147 f147 [] Xv9 [(RV.t 2)] 26:=by refine⟨func147,?_,?_,?_,?_⟩<;>kernel_rfl
theorem Y3e:Xaa QP 147=true:=by kernel_rfl
theorem Y3f (h:GI QP gp [(RV.t 2)] res 26 Xv9 args):Xam QP gp 147 args res:=Wkw.i Y3e h
def X61:List MO:=[Qa (Qv 4) (Qd (Qo (Qp (Qq (Qs false)))))]
def Y3g:MC:=.r0 X61
def X62:List MO:=[Qa (Qv 5) (Qd (Qn 0)),Qa (Qv 6) (Qd (Qn 1)),Qa (Qv 7) (Qh 173 [(Qn 5),(Qn 6)]),Qa (Qv 8) (Qe Qt Go.BinOp.geq (Qn 7) (Qo (Qp (Qq (Qr Qu 0))))),Qa (Qv 4) (Qd (Qn 8))]
def Y3h:MC:=.r0 X62
def X63:MC:=.seq Y3g (.seq Y3h .ret)
attribute [go_sem] X61 X62
theorem Wkx:KK QP 154 f154 [] X63 [(RV.t 4)] 9:=by refine⟨func154,?_,?_,?_,?_⟩<;>kernel_rfl
theorem Y3i:Xaa QP 154=true:=by kernel_rfl
theorem Y3j (h:GI QP gp [(RV.t 4)] res 9 X63 args):Xam QP gp 154 args res:=Wkx.i Y3i h
def X64:List MO:=[Qa (Qv 3) (Qd (Qo (Qp (Qq (Qs false)))))]
def Y3k:MC:=.r0 X64
def X65:List MO:=[Qa (Qv 4) (Qd (Qn 0)),Qa (Qv 5) (Qe Qt Go.BinOp.lss (Qn 4) (Qo (Qp (Qq (Qr Qu 0))))),Qa (Qv 6) (Qd (Qn 5)),Qb 6 false (Qv 7),Qa (Qv 7) (Qd (Qn 0)),Qb 6 false (Qv 8),Qa (Qv 8) (Qg 6 (Qn 1)),Qb 6 false (Qv 9),Qa (Qv 9) (Qf 1 false (Qn 8)),Qb 6 false (Qv 10),Qa (Qv 10) (Qe Qt Go.BinOp.geq (Qn 7) (Qn 9)),Qa (Qv 11) (Qm (Qn 6) (Qo (Qp (Qq (Qs true)))) (Qn 10)),Qa (Qv 3) (Qd (Qn 11))]
def Y3l:MC:=.r0 X65
def X66:MC:=.seq Y3k (.seq Y3l .ret)
attribute [go_sem] X64 X65
theorem Wky:KK QP 155 f155 [] X66 [(RV.t 3)] 12:=by refine⟨func155,?_,?_,?_,?_⟩<;>kernel_rfl
theorem Y3m:Xaa QP 155=true:=by kernel_rfl
theorem Y3n (h:GI QP gp [(RV.t 3)] res 12 X66 args):Xam QP gp 155 args res:=Wky.i Y3m h
def X67:List MO:=[Qa (Qv 4) (Qd (Qo (Qp (Qq (Qs false)))))]
def Y3o:MC:=.r0 X67
def X68:List MO:=[Qa (Qv 5) (Qd (Qn 0)),Qa (Qv 6) (Qd (Qn 1)),Qa (Qv 7) (Qh 174 [(Qn 5),(Qn 6)]),Qa (Qv 8) (Qe Qt Go.BinOp.geq (Qn 7) (Qo (Qp (Qq (Qr Qu 0))))),Qa (Qv 4) (Qd (Qn 8))]
def Y3p:MC:=.r0 X68
def X69:MC:=.seq Y3o (.seq Y3p .ret)
attribute [go_sem] X67 X68
theorem Wkz:KK QP 156 f156 [] X69 [(RV.t 4)] 9:=by refine⟨func156,?_,?_,?_,?_⟩<;>kernel_rfl
theorem Y3q:Xaa QP 156=true:=by kernel_rfl
theorem Y3r (h:GI QP gp [(RV.t 4)] res 9 X69 args):Xam QP gp 156 args res:=Wkz.i Y3q h
def X7a:List MO:=[Qa (Qv 1) (MOp.ibox (Qn 0)),Qa (Qv 2) (Qd (Qo (Qp (Qq (Qs false)))))]
def Y3s:MC:=.r0 X7a
def X7b:List MO:=[Qa (Qv 3) (Qf 3 true (Qn 1)),Qa (Qv 4) (Qh 127 [(Qn 3)]),Qa (Qv 5) (MOp.not (Qn 4)),Qa (Qv 2) (Qd (Qn 5))]
def Y3t:MC:=.r0 X7b
def X7c:MC:=.seq Y3s (.seq Y3t .ret)
attribute [go_sem] X7a X7b
theorem Wk0:KK QP 157 f157 [1] X7c [(RV.t 2)] 6:=by refine⟨func157,?_,?_,?_,?_⟩<;>kernel_rfl
theorem Y3u:Xaa QP 157=true:=by kernel_rfl
theorem Y3v (h:GI QP gp [(RV.t 2)] res 6 X7c args):Xam QP gp 157 args res:=Wk0.i Y3u h
def X7d:List MO:=[Qa (Qv 4) (Qd (Qo (Qp (Qq (Qs false)))))]
def Y3w:MC:=.r0 X7d
def X7e:List MO:=[Qa (Qv 5) (Qd (Qn 0)),Qa (Qv 6) (Qd (Qn 1)),Qa (Qv 7) (Qh 175 [(Qn 5),(Qn 6)]),Qa (Qv 8) (Qe Qt Go.BinOp.geq (Qn 7) (Qo (Qp (Qq (Qr Qu 0))))),Qa (Qv 4) (Qd (Qn 8))]
def Y3x:MC:=.r0 X7e
def X7f:MC:=.seq Y3w (.seq Y3x .ret)
attribute [go_sem] X7d X7e
theorem Wk1:KK QP 158 f158 [] X7f [(RV.t 4)] 9:=by refine⟨func158,?_,?_,?_,?_⟩<;>kernel_rfl
theorem Y3y:Xaa QP 158=true:=by kernel_rfl
theorem Y3z (h:GI QP gp [(RV.t 4)] res 9 X7f args):Xam QP gp 158 args res:=Wk1.i Y3y h
def X7g:List MO:=[Qa (Qv 2) (Qd (Qo (Qp (Qq (Qs false)))))]
def Y30:MC:=.r0 X7g
def X7h:List MO:=[Qa (Qv 3) (MOp.alloc [(Qr Qu 0)]),Qa none (Ql 1 (Qn 3) (Qo (Qp (Qq (Qr Qu 0)))))]
def Y31:MC:=.r0 X7h
def X7i:List MO:=[Qa (Qv 4) (Qd (Qn 0)),Qa (Qv 5) (Qh 176 [(Qn 4)])]
def Y32:MC:=.r0 X7i
def X7j:List MO:=[Qa (Qv 7) (Qf 1 false (Qn 3)),Qa (Qv 8) (Qe Qt Go.BinOp.add (Qn 7) (Qo (Qp (Qq (Qr Qu 1))))),Qa none (Ql 1 (Qn 3) (Qn 8))]
def Y33:MC:=.r0 X7j
def Y34:MC:=.rf (Qn 5) [6] .skip (.blk 1 Y33)
def X7k:List MO:=[Qa (Qv 9) (Qf 1 false (Qn 3)),Qa (Qv 10) (Qd (Qn 0)),Qa (Qv 11) (Qk Qt (Qn 10)),Qa (Qv 12) (Qe Qt Go.BinOp.lss (Qn 9) (Qn 11)),Qa (Qv 2) (Qd (Qn 12))]
def Y35:MC:=.r0 X7k
def Ykr:MC:=.seq Y31 (.seq (.seq Y32 (.blk 0 Y34)) (.seq Y35 .ret))
def Xwa:MC:=.seq Y30 Ykr
attribute [go_sem] X7g X7h X7i X7j X7k
theorem Wk2:KK QP 159 f159 [] Xwa [(RV.t 2)] 13:=by refine⟨func159,?_,?_,?_,?_⟩<;>kernel_rfl
theorem Y36:Xaa QP 159=true:=by kernel_rfl
theorem Y37 (h:GI QP gp [(RV.t 2)] res 13 Xwa args):Xam QP gp 159 args res:=Wk2.i Y36 h
def X7l:List MO:=[Qa (Qv 4) (Qd (Qo (Qp (Qq (Qr Qu 0)))))]
def Y38:MC:=.r0 X7l
def X7m:List MO:=[Qa (Qv 6) (Qd (Qn 0)),Qa (Qv 7) (Qk Qt (Qn 6)),Qa (Qv 8) (Qd (Qo (Qp (Qq (Qr Qu 0)))))]
def Y39:MC:=.r0 X7m
def X7n:List MO:=[Qa (Qv 9) (Qe Qt Go.BinOp.lss (Qn 8) (Qn 7))]
def Y4a:MC:=.r0 X7n
def X7o:List MO:=[Qa (Qv 10) (Qd (Qn 8)),Qa (Qv 5) (Qd (Qn 10))]
def Y4b:MC:=.r0 X7o
def X7p:List MO:=[Qa (Qv 11) (Qd (Qn 1)),Qa (Qv 12) (Qd (Qn 0)),Qa (Qv 13) (Qd (Qn 5)),Qa (Qv 14) (Qj 1 (Qn 12) (Qn 13)),Qa (Qv 15) (Qf 1 false (Qn 14)),Qa (Qv 16) (Qe Leaf.b Go.BinOp.eql (Qn 11) (Qn 15))]
def Y4c:MC:=.r0 X7p
def X7q:List MO:=[Qa (Qv 17) (Qd (Qn 5)),Qa (Qv 4) (Qd (Qn 17))]
def Y4d:MC:=.r0 X7q
def Xwb:List MO:=[Qa (Qv 18) (Qe Qt Go.BinOp.add (Qn 8) (Qo (Qp (Qq (Qr Qu 1))))),Qa (Qv 8) (Qd (Qn 18))]
def Yks:MC:=.r0 Xwb
def Ykt:MC:=.seq (.blk 1 (.seq Y4b (.seq Y4c (.cond (Qn 16) (.seq Y4d .ret) .skip)))) Yks
def Xwc:List MO:=[Qa (Qv 4) (Qd (Qo (Qp (Qq (Qr Qu (-1))))))]
def Yku:MC:=.r0 Xwc
def Ykv:MC:=.seq (.seq Y39 (.blk 0 (.loop (.seq Y4a (.seq (.cond (Qn 9) .skip (MC.exit 0)) Ykt))))) (.seq Yku .ret)
def Xwd:MC:=.seq Y38 Ykv
attribute [go_sem] X7l X7m X7n X7o X7p X7q Xwb Xwc
theorem Wk3:KK QP 173 f173 [] Xwd [(RV.t 4)] 19:=by refine⟨func173,?_,?_,?_,?_⟩<;>kernel_rfl
theorem Y4e:Xaa QP 173=true:=by kernel_rfl
theorem Y4f (h:GI QP gp [(RV.t 4)] res 19 Xwd args):Xam QP gp 173 args res:=Wk3.i Y4e h
def X7r:List MO:=[Qa (Qv 4) (Qd (Qo (Qp (Qq (Qr Qu 0)))))]
def Y4g:MC:=.r0 X7r
def X7s:List MO:=[Qa (Qv 6) (Qd (Qn 0)),Qa (Qv 7) (Qk Qt (Qn 6)),Qa (Qv 8) (Qd (Qo (Qp (Qq (Qr Qu 0)))))]
def Y4h:MC:=.r0 X7s
def X7t:List MO:=[Qa (Qv 9) (Qe Qt Go.BinOp.lss (Qn 8) (Qn 7))]
def Y4i:MC:=.r0 X7t
def X7u:List MO:=[Qa (Qv 10) (Qd (Qn 8)),Qa (Qv 5) (Qd (Qn 10))]
def Y4j:MC:=.r0 X7u
def X7v:List MO:=[Qa (Qv 11) (Qd (Qn 1)),Qa (Qv 12) (Qd (Qn 0)),Qa (Qv 13) (Qd (Qn 5)),Qa (Qv 14) (Qj 1 (Qn 12) (Qn 13)),Qa (Qv 15) (Qf 1 false (Qn 14)),Qa (Qv 16) (MOp.callv (Qn 11) [(Qn 15)])]
def Y4k:MC:=.r0 X7v
def X7w:List MO:=[Qa (Qv 17) (Qd (Qn 5)),Qa (Qv 4) (Qd (Qn 17))]
def Y4l:MC:=.r0 X7w
def Xwe:List MO:=[Qa (Qv 18) (Qe Qt Go.BinOp.add (Qn 8) (Qo (Qp (Qq (Qr Qu 1))))),Qa (Qv 8) (Qd (Qn 18))]
def Ykw:MC:=.r0 Xwe
def Ykx:MC:=.seq (.blk 1 (.seq Y4j (.seq Y4k (.cond (Qn 16) (.seq Y4l .ret) .skip)))) Ykw
def Xwf:List MO:=[Qa (Qv 4) (Qd (Qo (Qp (Qq (Qr Qu (-1))))))]
def Yky:MC:=.r0 Xwf
def Ykz:MC:=.seq (.seq Y4h (.blk 0 (.loop (.seq Y4i (.seq (.cond (Qn 9) .skip (MC.exit 0)) Ykx))))) (.seq Yky .ret)
def Xwg:MC:=.seq Y4g Ykz
attribute [go_sem] X7r X7s X7t X7u X7v X7w Xwe Xwf
theorem Wk4:KK QP 174 f174 [] Xwg [(RV.t 4)] 19:=by refine⟨func174,?_,?_,?_,?_⟩<;>kernel_rfl
theorem Y4m:Xaa QP 174=true:=by kernel_rfl
theorem Y4n (h:GI QP gp [(RV.t 4)] res 19 Xwg args):Xam QP gp 174 args res:=Wk4.i Y4m h
def X7x:List MO:=[Qa (Qv 4) (Qd (Qo (Qp (Qq (Qr Qu 0)))))]
def Y4o:MC:=.r0 X7x
def X7y:List MO:=[Qa (Qv 6) (Qd (Qn 0)),Qa (Qv 7) (Qk Qt (Qn 6)),Qa (Qv 8) (Qd (Qo (Qp (Qq (Qr Qu 0)))))]
def Y4p:MC:=.r0 X7y
def X7z:List MO:=[Qa (Qv 9) (Qe Qt Go.BinOp.lss (Qn 8) (Qn 7))]
def Y4q:MC:=.r0 X7z
def X70:List MO:=[Qa (Qv 10) (Qd (Qn 8)),Qa (Qv 5) (Qd (Qn 10))]
def Y4r:MC:=.r0 X70
def X71:List MO:=[Qa (Qv 11) (Qd (Qn 1)),Qa (Qv 12) (Qd (Qn 0)),Qa (Qv 13) (Qd (Qn 5)),Qa (Qv 14) (Qj 3 (Qn 12) (Qn 13)),Qa (Qv 15) (Qf 3 true (Qn 14)),Qa (Qv 16) (MOp.callv (Qn 11) [(Qn 15)])]
def Y4s:MC:=.r0 X71
def X72:List MO:=[Qa (Qv 17) (Qd (Qn 5)),Qa (Qv 4) (Qd (Qn 17))]
def Y4t:MC:=.r0 X72
def Xwh:List MO:=[Qa (Qv 18) (Qe Qt Go.BinOp.add (Qn 8) (Qo (Qp (Qq (Qr Qu 1))))),Qa (Qv 8) (Qd (Qn 18))]
def Yk0:MC:=.r0 Xwh
def Yk1:MC:=.seq (.blk 1 (.seq Y4r (.seq Y4s (.cond (Qn 16) (.seq Y4t .ret) .skip)))) Yk0
def Xwi:List MO:=[Qa (Qv 4) (Qd (Qo (Qp (Qq (Qr Qu (-1))))))]
def Yk2:MC:=.r0 Xwi
def Yk3:MC:=.seq (.seq Y4p (.blk 0 (.loop (.seq Y4q (.seq (.cond (Qn 9) .skip (MC.exit 0)) Yk1))))) (.seq Yk2 .ret)
def Xwj:MC:=.seq Y4o Yk3
attribute [go_sem] X7x X7y X7z X70 X71 X72 Xwh Xwi
theorem Wk5:KK QP 175 f175 [] Xwj [(RV.t 4)] 19:=by refine⟨func175,?_,?_,?_,?_⟩<;>kernel_rfl
theorem Y4u:Xaa QP 175=true:=by kernel_rfl
theorem Y4v (h:GI QP gp [(RV.t 4)] res 19 Xwj args):Xam QP gp 175 args res:=Wk5.i Y4u h
def X73:List MO:=[Qa (Qv 1) (MOp.ibox (Qn 0)),Qa (Qv 2) (Qd (Qo (Qp (Qq D.nilF))))]
def Y4w:MC:=.r0 X73
def X74:List MO:=[Qa (Qv 3) (MOp.mkF (Go.Fn.func 186) [(Qn 1)]),Qa (Qv 2) (Qd (Qn 3))]
def Y4x:MC:=.r0 X74
def X75:MC:=.seq Y4w (.seq Y4x .ret)
attribute [go_sem] X73 X74
theorem Wk6:KK QP 176 f176 [1] X75 [(RV.t 2)] 4:=by refine⟨func176,?_,?_,?_,?_⟩<;>kernel_rfl
theorem Y4y:Xaa QP 176=true:=by kernel_rfl
theorem Y4z (h:GI QP gp [(RV.t 2)] res 4 X75 args):Xam QP gp 176 args res:=Wk6.i Y4y h
def X76:List MO:=[Qa (Qv 6) MOp.mkM,Qa (Qv 3) (Qd (Qn 6))]
def Y40:MC:=.r0 X76
def X77:List MO:=[Qa (Qv 7) (Qf 1 false (Qn 1)),Qa (Qv 8) (Qk Qt (Qn 7)),Qa (Qv 9) (Qd (Qo (Qp (Qq (Qr Qu 0)))))]
def Y41:MC:=.r0 X77
def X78:List MO:=[Qa (Qv 10) (Qe Qt Go.BinOp.lss (Qn 9) (Qn 8))]
def Y42:MC:=.r0 X78
def X79:List MO:=[Qa (Qv 11) (Qj 3 (Qn 7) (Qn 9)),Qa (Qv 12) (Qf 3 true (Qn 11)),Qa (Qv 5) (MOp.alloc [(Qr Qu 0),(Qr Qu 0),(D.str (ByteArray.mk #[]))]),Qa none (Ql 3 (Qn 5) (Qn 12))]
def Y43:MC:=.r0 X79
def X8a:List MO:=[Qa (Qv 13) (Qd (Qn 3)),Qa (Qv 14) (Qf 3 true (Qn 5)),Qa (Qv 15) (MOp.lkp false (Qp (Qq (Qs false))) true [Qt,Qt,Leaf.s] (Qn 13) (Qn 14)),Qa (Qv 16) (Qd (Qn 15)),Qb 16 false (Qv 17),Qa (Qv 17) (Qd (Qn 0)),Qb 16 false (Qv 18),Qa (Qv 18) (Qf 3 true (Qn 5)),Qb 16 false (Qv 19),Qa (Qv 19) (MOp.callv (Qn 17) [(Qn 18)]),Qb 16 false (Qv 20),Qa (Qv 20) (MOp.not (Qn 19)),Qa (Qv 21) (Qm (Qn 16) (Qo (Qp (Qq (Qs true)))) (Qn 20))]
def Y44:MC:=.r0 X8a
def Xwk:List MO:=[Qa (Qv 22) (Qd (Qn 3)),Qa (Qv 23) (Qf 3 true (Qn 5)),Qa none (MOp.mupd true [Qt,Qt,Leaf.s] (Qn 22) (Qn 23) (Qo (Qp (Qq (Qs true)))))]
def Yk4:MC:=.r0 Xwk
def Xwl:List MO:=[Qa (Qv 24) (Qe Qt Go.BinOp.add (Qn 9) (Qo (Qp (Qq (Qr Qu 1))))),Qa (Qv 9) (Qd (Qn 24))]
def Yk5:MC:=.r0 Xwl
def Yk6:MC:=.seq (.blk 1 (.seq Y43 (.seq (.seq Y44 (.cond (Qn 21) (MC.exit 0) .skip)) Yk4))) Yk5
def Yk7:MC:=.seq Y40 (.seq .skip (.seq Y41 (.blk 0 (.loop (.seq Y42 (.seq (.cond (Qn 10) .skip (MC.exit 0)) Yk6))))))
def Xwm:MC:=.scope Yk7
attribute [go_sem] X76 X77 X78 X79 X8a Xwk Xwl
theorem Wk7:KK QP 186 f186 [] Xwm [] 25:=by refine⟨func186,?_,?_,?_,?_⟩<;>kernel_rfl
theorem Y45:Xaa QP 186=true:=by kernel_rfl
theorem Yk8 (h:GT QP gp [] pre R 25 Xwm args):Tri QP gp 186 args pre R:=Wk7.t h
end Go.Fw.L07
