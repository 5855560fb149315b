/- Small codes. -/
import Derived.Test.YtiklocoaghcliaaGreatDoorFd
import Derived.Test.YtiklocoaghcliaaGreatDoorProg
set_option linter.all false
namespace Go.Fw.L07
open Go Go.Fw
open Go.Proofs.Tryz renaming prog->QP
open Go.Proofs.Tryz (f101 f27 f28 f52 f53 f54 f55 f76 f77 func101 func27 func28 func52 func53 func54 func55 func76 func77)
open Go.Fw.MO renaming op->Qa,opx->Qc
open Go.Fw.MOp renaming mv->Qd,bin->Qe,load->Qf,fad->Qg,call->Qh,ext->Qi,iad->Qj,len->Qk,store->Ql
open Go.Fw.Opd renaming t->Qn,c->Qo
open Go.Fw.V renaming one->Qp
open Go.Fw.A renaming d->Qq
open Go.Fw.D renaming int->Qr,bool->Qs
open Go.Fw.Leaf renaming i->Qt
open Go.IntKind renaming i64->Qu
open Option renaming some->Qv
variable {gp:Xaj} {args:List V} {res:V} {pre:List Ch} {R:V->List Ch->Prop}
def Yxv:List MO:=[Qa (Qv 1) (MOp.ibox (Qn 0)),Qa (Qv 2) (Qd (Qo (Qp A.nil))),Qa (Qv 3) (Qd (Qo (Qp (Qq (Qr Qu 0)))))]
def Wvz:MC:=.r0 Yxv
def Xsy:List MO:=[Qa (Qv 8) (Qf 2 true (Qn 1)),Qa (Qv 9) (Qh 52 [(Qn 8)]),Qa (Qv 7) (Qd (Qn 9)),Qa (Qv 10) (Qi (Qn 7) 0),Qa (Qv 11) (Qi (Qn 7) 1),Qa (Qv 4) (MOp.alloc [D.nilP]),Qa none (Ql 1 (Qn 4) (Qn 10)),Qa (Qv 5) (Qd (Qn 11))]
def Wv0:MC:=.r0 Xsy
def Yxw:List MO:=[Qa (Qv 12) (Qd (Qn 5)),Qa (Qv 13) (Qe Qt Go.BinOp.neq (Qn 12) (Qo (Qp (Qq (Qr Qu 0)))))]
def Wv1:MC:=.r0 Yxw
def Yxx:List MO:=[Qa (Qv 14) (Qd (Qn 5)),Qa (Qv 2) (Qd (Qo (Qp A.nil))),Qa (Qv 3) (Qd (Qn 14))]
def Wv2:MC:=.r0 Yxx
def Yxy:List MO:=[Qa (Qv 6) (MOp.alloc [D.nilF])]
def Wv3:MC:=.r0 Yxy
def Ygo:List MO:=[Qa (Qv 15) (MOp.mkF (Go.Fn.func 53) [(Qn 4),(Qn 6)]),Qa none (Ql 1 (Qn 6) (Qn 15))]
def Wf7:MC:=.r0 Ygo
def Ygp:List MO:=[Qa (Qv 16) (Qf 1 false (Qn 6)),Qa (Qv 17) (Qf 1 false (Qn 4)),Qa (Qv 18) (MOp.nck (Qn 17)),Qa (Qv 19) (Qg 0 (Qn 18)),Qa (Qv 20) (Qg 0 (Qn 19)),Qa (Qv 21) (Qf 1 false (Qn 20)),Qc (Qv 22) (MOp.callv (Qn 16) [(Qn 21),(Qo (Qp (Qq (Qr Qu 1))))])]
def Wf8:MC:=.reg true Ygp
def Xm6:List MO:=[Qa (Qv 23) (Qf 1 false (Qn 4)),Qa (Qv 24) (MOp.nck (Qn 23)),Qa (Qv 25) (Qg 2 (Qn 24)),Qa (Qv 26) (Qf 1 false (Qn 25)),Qa (Qv 2) (Qd (Qn 26)),Qa (Qv 3) (Qd (Qo (Qp (Qq (Qr Qu 0)))))]
def Wf9:MC:=.r0 Xm6
def Wga:MC:=.seq Wv3 (.seq Wf7 (.seq Wf8 (.seq Wf9 .ret)))
def Wgb:MC:=.seq Wv0 (.seq (.seq Wv1 (.cond (Qn 13) (.seq Wv2 .ret) .skip)) Wga)
def Ygq:MC:=.seq Wvz Wgb
attribute [go_sem] Yxv Yxw Yxx Yxy Ygo Ygp
theorem W08:KK QP 27 f27 [1] Ygq [(RV.t 2),(RV.t 3)] 27:=by refine⟨func27,?_,?_,?_,?_⟩<;>kernel_rfl
theorem Wv4:Xaa QP 27=true:=by kernel_rfl
theorem Wv5 (h:GI QP gp [(RV.t 2),(RV.t 3)] res 27 Ygq args):Xao QP gp 27 args res:=W08.i Wv4 h
def Yxz:List MO:=[Qa (Qv 1) (MOp.ibox (Qn 0)),Qa (Qv 2) (Qd (Qo (Qp A.nil))),Qa (Qv 3) (Qd (Qo (Qp (Qq (Qr Qu 0)))))]
def Wv6:MC:=.r0 Yxz
def Xkn:List MO:=[Qa (Qv 12) (Qf 2 true (Qn 1)),Qa (Qv 13) (Qh 52 [(Qn 12)]),Qa (Qv 11) (Qd (Qn 13)),Qa (Qv 14) (Qi (Qn 11) 0),Qa (Qv 15) (Qi (Qn 11) 1),Qa (Qv 4) (Qd (Qn 14)),Qa (Qv 5) (Qd (Qn 15))]
def Wv7:MC:=.r0 Xkn
def Yx0:List MO:=[Qa (Qv 16) (Qd (Qn 5)),Qa (Qv 17) (Qe Qt Go.BinOp.neq (Qn 16) (Qo (Qp (Qq (Qr Qu 0)))))]
def Wv8:MC:=.r0 Yx0
def Yx1:List MO:=[Qa (Qv 18) (Qd (Qn 5)),Qa (Qv 2) (Qd (Qo (Qp A.nil))),Qa (Qv 3) (Qd (Qn 18))]
def Wv9:MC:=.r0 Yx1
def Yx2:List MO:=[Qa (Qv 19) (Qd (Qn 4)),Qa (Qv 20) (MOp.mkMv (Go.Fn.func 54) (Qn 19)),Qa (Qv 6) (Qd (Qn 20))]
def Wwa:MC:=.r0 Yx2
def Ygr:List MO:=[Qa (Qv 21) MOp.mkM,Qa (Qv 7) (Qd (Qn 21))]
def Wgc:MC:=.r0 Ygr
def Ygs:List MO:=[Qa (Qv 8) (Qd (Qo (Qp A.nil)))]
def Wgd:MC:=.r0 Ygs
def Ygt:List MO:=[Qa (Qv 22) (Qd (Qn 4)),Qa (Qv 23) (Qh 55 [(Qn 22)]),Qa (Qv 24) (Qk Qt (Qn 23)),Qa (Qv 25) (Qd (Qo (Qp (Qq (Qr Qu 0)))))]
def Wge:MC:=.r0 Ygt
def Ygu:List MO:=[Qa (Qv 26) (Qe Qt Go.BinOp.lss (Qn 25) (Qn 24))]
def Wgf:MC:=.r0 Ygu
def Ygv:List MO:=[Qa (Qv 27) (Qd (Qn 25)),Qa (Qv 28) (Qj 1 (Qn 23) (Qn 25)),Qa (Qv 29) (Qf 1 false (Qn 28)),Qa (Qv 9) (Qd (Qn 27)),Qa (Qv 10) (Qd (Qn 29))]
def Wgg:MC:=.r0 Ygv
def Ygw:List MO:=[Qa (Qv 30) (Qd (Qn 6)),Qa (Qv 31) (Qd (Qn 9)),Qa (Qv 32) (Qd (Qn 10)),Qa (Qv 33) (MOp.callv (Qn 30) [(Qn 31),(Qn 32)])]
def Wgh:MC:=.r0 Ygw
def Ygx:List MO:=[Qa (Qv 34) (Qd (Qn 7)),Qa (Qv 35) (Qd (Qn 9)),Qa none (MOp.mupd false [Qt] (Qn 34) (Qn 35) (Qo (Qp (Qq (Qs true)))))]
def Wgi:MC:=.r0 Ygx
def Ygy:List MO:=[Qa (Qv 36) (Qd (Qn 8)),Qa (Qv 37) (Qd (Qn 7)),Qa (Qv 38) (Qk Leaf.b (Qn 37)),Qa (Qv 39) (MOp.bslice 1 [(Qr Qu 0)] 1 [(0,(Qn 38))]),Qa (Qv 40) (MOp.app 3 1 8 (Qn 36) (Qn 39)),Qa (Qv 8) (Qd (Qn 40))]
def Wgj:MC:=.r0 Ygy
def Ygz:List MO:=[Qa (Qv 41) (Qd (Qn 8)),Qa (Qv 42) (MOp.bslice 1 [(Qr Qu 0)] 1 [(0,(Qo (Qp (Qq (Qr Qu 0)))))]),Qa (Qv 43) (MOp.app 3 1 8 (Qn 41) (Qn 42)),Qa (Qv 8) (Qd (Qn 43))]
def Wgk:MC:=.r0 Ygz
def Wgl:MC:=.seq (.seq Wgh (.cond (Qn 33) (.seq Wgi (.seq Wgj (MC.exit 1))) .skip)) Wgk
def Yg0:List MO:=[Qa (Qv 44) (Qe Qt Go.BinOp.add (Qn 25) (Qo (Qp (Qq (Qr Qu 1))))),Qa (Qv 25) (Qd (Qn 44))]
def Wgm:MC:=.r0 Yg0
def Wgn:MC:=.seq Wgf (.seq (.cond (Qn 26) .skip (MC.exit 0)) (.seq (.blk 1 (.seq Wgg Wgl)) Wgm))
def Yg1:List MO:=[Qa (Qv 45) (Qd (Qn 8)),Qa (Qv 2) (Qd (Qn 45)),Qa (Qv 3) (Qd (Qo (Qp (Qq (Qr Qu 0)))))]
def Wgo:MC:=.r0 Yg1
def Wgp:MC:=.seq Wgd (.seq (.seq Wge (.blk 0 (.loop Wgn))) (.seq Wgo .ret))
def Wgq:MC:=.seq (.seq Wv8 (.cond (Qn 17) (.seq Wv9 .ret) .skip)) (.seq Wwa (.seq Wgc Wgp))
def Yg2:MC:=.seq Wv6 (.seq Wv7 Wgq)
attribute [go_sem] Yxz Yx0 Yx1 Yx2 Ygr Ygs Ygt Ygu Ygv Ygw Ygx Ygy Ygz Yg0 Yg1
theorem W09:KK QP 28 f28 [1] Yg2 [(RV.t 2),(RV.t 3)] 46:=by refine⟨func28,?_,?_,?_,?_⟩<;>kernel_rfl
theorem Wwb:Xaa QP 28=true:=by kernel_rfl
theorem Wwc (h:GI QP gp [(RV.t 2),(RV.t 3)] res 46 Yg2 args):Xao QP gp 28 args res:=W09.i Wwb h
def Yx3:List MO:=[Qa (Qv 1) (MOp.ibox (Qn 0)),Qa (Qv 2) (Qd (Qo (Qp (Qq D.nilP)))),Qa (Qv 3) (Qd (Qo (Qp (Qq (Qr Qu 0)))))]
def Wwd:MC:=.r0 Yx3
def Yx4:List MO:=[Qa (Qv 4) (Qf 2 true (Qn 1)),Qa (Qv 5) (Qh 26 [(Qn 4)]),Qa (Qv 6) (MOp.not (Qn 5))]
def Wwe:MC:=.r0 Yx4
def Yx5:List MO:=[Qa (Qv 2) (Qd (Qo (Qp (Qq D.nilP)))),Qa (Qv 3) (Qd (Qo (Qp (Qq (Qr Qu 72)))))]
def Wwf:MC:=.r0 Yx5
def Yx6:List MO:=[Qa (Qv 7) (Qf 2 true (Qn 1)),Qa (Qv 8) (Qg 1 (Qn 1)),Qa (Qv 9) (Qf 1 false (Qn 8)),Qa (Qv 10) (Qk Qt (Qn 9)),Qa (Qv 11) (MOp.mkS 1 8 [(Qr Qu 0)] (Qn 10)),Qa (Qv 12) (MOp.build [(Qr Qu 0),(D.sl []),(D.sl [])] [(0,(2,(Qn 7))),(2,(1,(Qn 11)))]),Qa (Qv 13) (MOp.box (Qn 12)),Qa (Qv 2) (Qd (Qn 13)),Qa (Qv 3) (Qd (Qo (Qp (Qq (Qr Qu 0)))))]
def Wwg:MC:=.reg true Yx6
def Yg3:MC:=.seq Wwd (.seq (.seq Wwe (.cond (Qn 6) (.seq Wwf .ret) .skip)) (.seq Wwg .ret))
attribute [go_sem] Yx3 Yx4 Yx5 Yx6
theorem W1a:KK QP 52 f52 [1] Yg3 [(RV.t 2),(RV.t 3)] 14:=by refine⟨func52,?_,?_,?_,?_⟩<;>kernel_rfl
theorem Yx7:Xaa QP 52=true:=by kernel_rfl
theorem Wgr (h:GT QP gp [(RV.t 2),(RV.t 3)] pre R 14 Yg3 args):Tri QP gp 52 args pre R:=W1a.t h
def Yx8:List MO:=[Qa (Qv 8) (Qf 1 false (Qn 2)),Qa (Qv 9) (MOp.nck (Qn 8)),Qa (Qv 10) (Qg 2 (Qn 9)),Qa (Qv 11) (Qf 1 false (Qn 10)),Qa (Qv 12) (Qd (Qn 0)),Qa (Qv 13) (Qj 1 (Qn 11) (Qn 12)),Qa (Qv 14) (Qf 1 false (Qn 13)),Qa (Qv 15) (Qe Qt Go.BinOp.gtr (Qn 14) (Qo (Qp (Qq (Qr Qu 0)))))]
def Wwh:MC:=.r0 Yx8
def Yx9:List MO:=[Qa (Qv 16) (Qf 1 false (Qn 2)),Qa (Qv 17) (MOp.nck (Qn 16)),Qa (Qv 18) (Qg 2 (Qn 17)),Qa (Qv 19) (Qf 1 false (Qn 18)),Qa (Qv 20) (Qd (Qn 0)),Qa (Qv 21) (Qd (Qn 1)),Qa (Qv 22) (Qj 1 (Qn 19) (Qn 20)),Qa none (Ql 1 (Qn 22) (Qn 21))]
def Wwi:MC:=.r0 Yx9
def Yya:List MO:=[Qa (Qv 23) (Qf 1 false (Qn 2)),Qa (Qv 24) (MOp.nck (Qn 23)),Qa (Qv 25) (Qg 0 (Qn 24)),Qa (Qv 26) (Qg 1 (Qn 25)),Qa (Qv 27) (Qf 1 false (Qn 26)),Qa (Qv 28) (Qd (Qn 0)),Qa (Qv 29) (Qj 6 (Qn 27) (Qn 28)),Qa (Qv 30) (Qg 5 (Qn 29)),Qa (Qv 31) (Qf 1 false (Qn 30)),Qa (Qv 32) (Qk Qt (Qn 31)),Qa (Qv 33) (Qd (Qo (Qp (Qq (Qr Qu 0)))))]
def Wwj:MC:=.r0 Yya
def Yyb:List MO:=[Qa (Qv 34) (Qe Qt Go.BinOp.lss (Qn 33) (Qn 32))]
def Wwk:MC:=.r0 Yyb
def Yg4:List MO:=[Qa (Qv 35) (Qj 1 (Qn 31) (Qn 33)),Qa (Qv 36) (Qf 1 false (Qn 35)),Qa (Qv 7) (Qd (Qn 36))]
def Wgs:MC:=.r0 Yg4
def Yg5:List MO:=[Qa (Qv 37) (Qf 1 false (Qn 3)),Qa (Qv 38) (Qd (Qn 7)),Qa (Qv 39) (Qd (Qn 1)),Qa (Qv 40) (Qe Qt Go.BinOp.add (Qn 39) (Qo (Qp (Qq (Qr Qu 1))))),Qa (Qv 41) (MOp.callv (Qn 37) [(Qn 38),(Qn 40)])]
def Wgt:MC:=.r0 Yg5
def Yg6:List MO:=[Qa (Qv 42) (Qe Qt Go.BinOp.add (Qn 33) (Qo (Qp (Qq (Qr Qu 1))))),Qa (Qv 33) (Qd (Qn 42))]
def Wgu:MC:=.r0 Yg6
def Wgv:MC:=.seq Wwk (.seq (.cond (Qn 34) .skip (MC.exit 0)) (.seq (.blk 1 (.seq Wgs Wgt)) Wgu))
def Yg7:MC:=.seq (.seq Wwh (.cond (Qn 15) .ret .skip)) (.seq Wwi (.seq Wwj (.blk 0 (.loop Wgv))))
attribute [go_sem] Yx8 Yx9 Yya Yyb Yg4 Yg5 Yg6
theorem W1b:KK QP 53 f53 [] Yg7 [] 43:=by refine⟨func53,?_,?_,?_,?_⟩<;>kernel_rfl
theorem Yyc:Xaa QP 53=true:=by kernel_rfl
theorem Yg8 (h:GT QP gp [] pre R 43 Yg7 args):Tri QP gp 53 args pre R:=W1b.t h
def Yyd:List MO:=[Qa (Qv 6) (Qd (Qo (Qp (Qq (Qs false)))))]
def Wwl:MC:=.r0 Yyd
def Yye:List MO:=[Qa (Qv 8) (Qd (Qn 0)),Qa (Qv 9) (MOp.nck (Qn 8)),Qa (Qv 10) (Qg 0 (Qn 9)),Qa (Qv 11) (Qg 1 (Qn 10)),Qa (Qv 12) (Qf 1 false (Qn 11)),Qa (Qv 13) (Qd (Qn 1)),Qa (Qv 14) (Qj 6 (Qn 12) (Qn 13)),Qa (Qv 15) (Qf 6 true (Qn 14)),Qa (Qv 7) (MOp.alloc [(Qr Qu 0),(Qr Qu 0),(Qr Qu 0),(D.str (ByteArray.mk #[])),(D.sl []),(D.sl [])]),Qa none (Ql 6 (Qn 7) (Qn 15))]
def Wwm:MC:=.r0 Yye
def Yyf:List MO:=[Qa (Qv 17) (Qh 76 []),Qa (Qv 18) (Qg 0 (Qn 7)),Qa (Qv 19) (Qf 1 false (Qn 18)),Qa (Qv 20) (MOp.idxA 3 (Qn 17) (Qn 19)),Qa (Qv 21) (MOp.not (Qn 20)),Qa (Qv 16) (Qd (Qn 21))]
def Wwn:MC:=.reg true Yyf
def Yyg:List MO:=[Qa (Qv 23) (Qg 5 (Qn 7)),Qa (Qv 24) (Qf 1 false (Qn 23)),Qa (Qv 25) (Qk Qt (Qn 24)),Qa (Qv 26) (Qe Qt Go.BinOp.eql (Qn 25) (Qo (Qp (Qq (Qr Qu 0))))),Qa (Qv 22) (Qd (Qn 26))]
def Wwo:MC:=.r0 Yyg
def Yg9:List MO:=[Qa (Qv 6) (Qd (Qo (Qp (Qq (Qs false)))))]
def Wgw:MC:=.r0 Yg9
def Wgx:MC:=.seq Wwm (.blk 0 (.seq (.blk 2 (.blk 1 (.seq (.seq (.seq Wwn (.cond (Qn 16) (MC.exit 1) .skip)) (.seq Wwo (.cond (Qn 22) (MC.exit 2) .skip))) (MC.exit 0)))) (.seq (.seq Wgw .ret) (MC.exit 0))))
def Yha:List MO:=[Qa (Qv 27) (Qd (Qn 2)),Qa (Qv 28) (Qe Qt Go.BinOp.gtr (Qn 27) (Qo (Qp (Qq (Qr Qu 1))))),Qa (Qv 6) (Qd (Qn 28))]
def Wgy:MC:=.r0 Yha
def Yhb:MC:=.seq Wwl (.seq Wgx (.seq Wgy .ret))
attribute [go_sem] Yyd Yye Yyf Yyg Yg9 Yha
theorem W1c:KK QP 54 f54 [] Yhb [(RV.t 6)] 29:=by refine⟨func54,?_,?_,?_,?_⟩<;>kernel_rfl
theorem Wwp:Xaa QP 54=true:=by kernel_rfl
theorem Wgz (h:GT QP gp [(RV.t 6)] pre R 29 Yhb args):Tri QP gp 54 args pre R:=W1c.t h
def Yyh:List MO:=[Qa (Qv 1) (MOp.box (Qn 0)),Qa (Qv 2) (Qd (Qo (Qp A.nil)))]
def Wwq:MC:=.r0 Yyh
def Yyi:List MO:=[Qa (Qv 4) (Qf 1 false (Qn 1)),Qa (Qv 5) (MOp.nck (Qn 4)),Qa (Qv 6) (Qg 2 (Qn 5)),Qa (Qv 7) (Qf 1 false (Qn 6)),Qa (Qv 8) (Qj 1 (Qn 7) (Qo (Qp (Qq (Qr Qu 0))))),Qa (Qv 9) (Qf 1 false (Qn 8)),Qa (Qv 10) (Qe Qt Go.BinOp.add (Qn 9) (Qo (Qp (Qq (Qr Qu 1))))),Qa (Qv 11) (Qj 1 (Qn 7) (Qo (Qp (Qq (Qr Qu 0))))),Qa none (Ql 1 (Qn 11) (Qn 10))]
def Wwr:MC:=.r0 Yyi
def Yyj:List MO:=[Qa (Qv 12) (Qf 1 false (Qn 1)),Qa (Qv 13) (Qh 77 [(Qn 12)])]
def Wws:MC:=.r0 Yyj
def Yyk:List MO:=[Qa (Qv 3) (MOp.alloc [(Qr Qu 0),(Qr Qu 0)]),Qa none (Ql 2 (Qn 3) (Qn 14))]
def Wwt:MC:=.r0 Yyk
def Yyl:List MO:=[Qa (Qv 15) (Qf 1 false (Qn 1)),Qa (Qv 16) (MOp.nck (Qn 15)),Qa (Qv 17) (Qg 2 (Qn 16)),Qa (Qv 18) (Qf 1 false (Qn 17)),Qa (Qv 19) (Qg 1 (Qn 3)),Qa (Qv 20) (Qf 1 false (Qn 19)),Qa (Qv 21) (Qj 1 (Qn 18) (Qn 20)),Qa (Qv 22) (Qf 1 false (Qn 21)),Qa (Qv 23) (Qe Qt Go.BinOp.add (Qn 22) (Qo (Qp (Qq (Qr Qu 1))))),Qa (Qv 24) (Qj 1 (Qn 18) (Qn 20)),Qa none (Ql 1 (Qn 24) (Qn 23))]
def Wwu:MC:=.reg true Yyl
def Wwv:MC:=.rf (Qn 13) [14] Wwt (.blk 1 Wwu)
def Yym:List MO:=[Qa (Qv 25) (Qf 1 false (Qn 1)),Qa (Qv 26) (MOp.nck (Qn 25)),Qa (Qv 27) (Qg 2 (Qn 26)),Qa (Qv 28) (Qf 1 false (Qn 27)),Qa (Qv 2) (Qd (Qn 28))]
def Www:MC:=.r0 Yym
def Wg0:MC:=.seq Wwr (.seq (.seq Wws (.blk 0 Wwv)) (.seq Www .ret))
def Yhc:MC:=.seq Wwq Wg0
attribute [go_sem] Yyh Yyi Yyj Yyk Yyl Yym
theorem W1d:KK QP 55 f55 [] Yhc [(RV.t 2)] 29:=by refine⟨func55,?_,?_,?_,?_⟩<;>kernel_rfl
theorem Wwx:Xaa QP 55=true:=by kernel_rfl
theorem Wg1 (h:GT QP gp [(RV.t 2)] pre R 29 Yhc args):Tri QP gp 55 args pre R:=W1d.t h
def Yyn:List MO:=[Qa (Qv 0) (MOp.alloc [(Qs false),(Qs false),(Qs false)])]
def Wwy:MC:=.r0 Yyn
def Yyo:List MO:=[Qa (Qv 1) (MOp.build [(Qs false),(Qs false),(Qs false)] [(1,(1,(Qo (Qp (Qq (Qs true)))))),(2,(1,(Qo (Qp (Qq (Qs true))))))]),Qa none (Ql 3 (Qn 0) (Qn 1))]
def Wwz:MC:=.r0 Yyo
def Yyp:MC:=.seq Wwy (.seq Wwz .ret)
attribute [go_sem] Yyn Yyo
theorem W1e:KK QP 76 f76 [] Yyp [(RV.cell 0 3 true)] 2:=by refine⟨func76,?_,?_,?_,?_⟩<;>kernel_rfl
theorem Ww0:Xaa QP 76=true:=by kernel_rfl
theorem Ww1 (h:GI QP gp [(RV.cell 0 3 true)] res 2 Yyp args):Xao QP gp 76 args res:=W1e.i Ww0 h
def Yyq:List MO:=[Qa (Qv 1) (MOp.box (Qn 0)),Qa (Qv 2) (Qd (Qo (Qp (Qq D.nilF))))]
def Ww2:MC:=.r0 Yyq
def Yyr:List MO:=[Qa (Qv 3) (MOp.mkF (Go.Fn.func 101) [(Qn 1)]),Qa (Qv 2) (Qd (Qn 3))]
def Ww3:MC:=.r0 Yyr
def Yys:MC:=.seq Ww2 (.seq Ww3 .ret)
attribute [go_sem] Yyq Yyr
theorem W1f:KK QP 77 f77 [] Yys [(RV.t 2)] 4:=by refine⟨func77,?_,?_,?_,?_⟩<;>kernel_rfl
theorem Ww4:Xaa QP 77=true:=by kernel_rfl
theorem Wg2 (h:GT QP gp [(RV.t 2)] pre R 4 Yys args):Tri QP gp 77 args pre R:=W1f.t h
-- f78: trC none
def Yhd:List MO:=[Qa (Qv 7) (Qf 1 false (Qn 1)),Qa (Qv 8) (MOp.nck (Qn 7)),Qa (Qv 9) (Qg 0 (Qn 8)),Qa (Qv 10) (Qg 1 (Qn 9)),Qa (Qv 11) (Qf 1 false (Qn 10)),Qa (Qv 12) (Qk Qt (Qn 11)),Qa (Qv 13) (Qd (Qo (Qp (Qq (Qr Qu 0)))))]
def Wg3:MC:=.r0 Yhd
def Yhe:List MO:=[Qa (Qv 14) (Qe Qt Go.BinOp.lss (Qn 13) (Qn 12))]
def Wg4:MC:=.r0 Yhe
def Yhf:List MO:=[Qa (Qv 15) (Qd (Qn 13)),Qa (Qv 16) (Qj 6 (Qn 11) (Qn 13)),Qa (Qv 17) (Qf 6 true (Qn 16)),Qa (Qv 4) (MOp.alloc [(Qr Qu 0),(Qr Qu 0),(Qr Qu 0),(D.str (ByteArray.mk #[])),(D.sl []),(D.sl [])]),Qa (Qv 3) (Qd (Qn 15)),Qa none (Ql 6 (Qn 4) (Qn 17))]
def Wg5:MC:=.r0 Yhf
def Yhg:List MO:=[Qa (Qv 18) (Qg 5 (Qn 4)),Qa (Qv 19) (Qf 1 false (Qn 18)),Qa (Qv 20) (Qk Qt (Qn 19)),Qa (Qv 21) (Qd (Qo (Qp (Qq (Qr Qu 0)))))]
def Wg6:MC:=.r0 Yhg
def Yhh:List MO:=[Qa (Qv 22) (Qe Qt Go.BinOp.lss (Qn 21) (Qn 20))]
def Wg7:MC:=.r0 Yhh
def Xzo:List MO:=[Qa (Qv 23) (Qj 1 (Qn 19) (Qn 21)),Qa (Qv 24) (Qf 1 false (Qn 23)),Qa (Qv 6) (Qd (Qn 24))]
def Yo6:MC:=.r0 Xzo
def Xzp:List MO:=[Qa (Qv 25) (Qd (Qn 0)),Qa (Qv 26) (Qd (Qn 3)),Qa (Qv 27) (Qd (Qn 6)),Qa (Qv 28) (MOp.build [(Qr Qu 0),(Qr Qu 0)] [(0,(1,(Qn 26))),(1,(1,(Qn 27)))]),Qa (Qv 29) (MOp.callv (Qn 25) [(Qn 28)]),Qa (Qv 30) (MOp.not (Qn 29))]
def Yo7:MC:=.r0 Xzp
def Xzq:List MO:=[Qa (Qv 31) (Qe Qt Go.BinOp.add (Qn 21) (Qo (Qp (Qq (Qr Qu 1))))),Qa (Qv 21) (Qd (Qn 31))]
def Yo8:MC:=.r0 Xzq
def Yo9:MC:=.seq Wg7 (.seq (.cond (Qn 22) .skip (MC.exit 2)) (.seq (.blk 3 (.seq Yo6 (.seq Yo7 (.cond (Qn 30) (MC.exit 0) .skip)))) Yo8))
def Xzr:List MO:=[Qa (Qv 32) (Qe Qt Go.BinOp.add (Qn 13) (Qo (Qp (Qq (Qr Qu 1))))),Qa (Qv 13) (Qd (Qn 32))]
def Ypa:MC:=.r0 Xzr
def Ypb:MC:=.seq (.blk 1 (.seq Wg5 (.seq Wg6 (.blk 2 (.loop Yo9))))) Ypa
def Xzs:MC:=.scope (.seq .skip (.seq Wg3 (.blk 0 (.loop (.seq Wg4 (.seq (.cond (Qn 14) .skip (MC.exit 0)) Ypb))))))
attribute [go_sem] Yhd Yhe Yhf Yhg Yhh Xzo Xzp Xzq Xzr
theorem Ww5:KK QP 101 f101 [] Xzs [] 33:=by refine⟨func101,?_,?_,?_,?_⟩<;>kernel_rfl
theorem Wg8:Xaa QP 101=true:=by kernel_rfl
theorem Ypc (h:GT QP gp [] pre R 33 Xzs args):Tri QP gp 101 args pre R:=Ww5.t h
end Go.Fw.L07
