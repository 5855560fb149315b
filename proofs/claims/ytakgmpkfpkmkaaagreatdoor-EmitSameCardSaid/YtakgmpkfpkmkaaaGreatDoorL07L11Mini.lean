/- Small codes. -/
import Derived.Test.YtakgmpkfpkmkaaaGreatDoorFd
import Derived.Test.YtakgmpkfpkmkaaaGreatDoorProg
set_option linter.all false
namespace Go.Fw.L07
open Go Go.Fw
open Go.Proofs.Tryz renaming prog->QP
open Go.Proofs.Tryz (f107 f21 f40 f41 f42 f69 f70 func107 func21 func40 func41 func42 func69 func70)
open Go.Fw.MO renaming op->Qa
open Go.Fw.MOp renaming mv->Qd,bin->Qe,load->Qf,fad->Qg,call->Qh,ext->Qi,iad->Qj,len->Qk,store->Ql,nck->Qw,build->Qx,ibox->Qz,alloc->Q1,bslice->Q7,mkI->Q8,app->Q9
open Go.Fw.Opd renaming t->Qn,c->Qo
open Go.Fw.V renaming one->Qp
open Go.Fw.A renaming d->Qq
open Go.Fw.D renaming int->Qr,bool->Qs,sl->Q0
open Go.Fw.Leaf renaming i->Qt
open Go.IntKind renaming i64->Qu
open Option renaming some->Qv
open Go.Fw.RV renaming t->Qy,cell->Q2
open Go.Fw.MC renaming exit->Q3
open _root_.ByteArray renaming mk->Q4
open Go.BinOp renaming lss->Q5,add->Q6,neq->QA
variable {gp:Heap} {args:List V} {res:V} {pre:List Ch} {R:V->List Ch->Prop}
def Yyq:=[Qa (Qv 1) (Qz (Qn 0)),Qa (Qv 2) (Q1 [(Qr Qu 0),(Q0 [])]),Qa (Qv 3) (Qd (Qo (Qp (Qq (Qr Qu 0)))))]
def Wup:MC:=.r0 Yyq
def Yyr:=[Qa (Qv 7) (Qf 2 true (Qn 1)),Qa (Qv 8) (Qh 40 [(Qn 7)]),Qa (Qv 6) (Qd (Qn 8)),Qa (Qv 9) (Qi (Qn 6) 0),Qa (Qv 10) (Qi (Qn 6) 1),Qa (Qv 4) (Qd (Qn 9)),Qa (Qv 5) (Qd (Qn 10))]
def Wuq:MC:=.r0 Yyr
def Yys:=[Qa (Qv 11) (Qd (Qn 5)),Qa (Qv 12) (MOp.nilq NK.ifc true (Qn 11))]
def Wur:MC:=.r0 Yys
def Yyt:=[Qa (Qv 13) (Qx [(Qr Qu 0),(Q0 [])] []),Qa (Qv 14) (Qd (Qn 5)),Qa (Qv 15) (Qh 41 [(Qn 14)]),Qa none (Ql 2 (Qn 2) (Qn 13)),Qa (Qv 3) (Qd (Qn 15))]
def Wus:MC:=.r0 Yyt
def Yyu:=[Qa (Qv 16) (Qd (Qn 4)),Qa (Qv 17) (Qh 42 [(Qn 16)]),Qa (Qv 18) (Qh 25 [(Qn 17)]),Qa (Qv 19) (Qi (Qn 18) 0),Qa (Qv 20) (Qi (Qn 18) 1),Qa none (Ql 2 (Qn 2) (Qn 19)),Qa (Qv 3) (Qd (Qn 20))]
def Wut:MC:=.r0 Yyu
def Wgo:MC:=.seq Wuq (.seq (.seq Wur (.cond (Qn 12) (.seq Wus .ret) .skip)) (.seq Wut .ret))
def Yh8:MC:=.seq Wup Wgo
attribute [go_sem] Yyq Yyr Yys Yyt Yyu
theorem Wzh:KK QP 21 f21 [1] Yh8 [(Q2 2 2 true),(Qy 3)] 21:=by refine⟨func21,?_,?_,?_,?_⟩<;>kernel_rfl
theorem Wuu:Xaa QP 21=true:=by kernel_rfl
theorem Wuv (h:GI QP gp [(Q2 2 2 true),(Qy 3)] res 21 Yh8 args):Does QP gp 21 args res:=Wzh.i Wuu h
def Yyv:=[Qa (Qv 1) (Qz (Qn 0)),Qa (Qv 2) (Qd (Qo (Qp (Qq D.nilP)))),Qa (Qv 3) (Qd (Qo (Qp (Qq D.nilI))))]
def Wuw:MC:=.r0 Yyv
def Yyw:=[Qa (Qv 7) (Qf 2 true (Qn 1)),Qa (Qv 8) (Qh 67 [(Qn 7)]),Qa (Qv 6) (Qd (Qn 8)),Qa (Qv 9) (Qi (Qn 6) 0),Qa (Qv 10) (Qi (Qn 6) 1),Qa (Qv 4) (Qd (Qn 9)),Qa (Qv 5) (Qd (Qn 10))]
def Wux:MC:=.r0 Yyw
def Yyx:=[Qa (Qv 11) (Qd (Qn 5)),Qa (Qv 12) (Qe Qt QA (Qn 11) (Qo (Qp (Qq (Qr Qu 0)))))]
def Wuy:MC:=.r0 Yyx
def Yyy:=[Qa (Qv 13) (Qd (Qn 5)),Qa (Qv 14) (Qx [(Qr Qu 0)] [(0,(1,(Qn 13)))]),Qa (Qv 15) (Q8 108 (Qn 14)),Qa (Qv 2) (Qd (Qo (Qp (Qq D.nilP)))),Qa (Qv 3) (Qd (Qn 15))]
def Wuz:MC:=.r0 Yyy
def Yyz:=[Qa (Qv 16) (Qf 2 true (Qn 1)),Qa (Qv 17) (Qd (Qn 4)),Qa (Qv 18) (Qx [(Qr Qu 0),(Q0 []),(Q0 [])] [(0,(2,(Qn 16))),(2,(1,(Qn 17)))]),Qa (Qv 19) (Qz (Qn 18)),Qa (Qv 2) (Qd (Qn 19)),Qa (Qv 3) (Qd (Qo (Qp (Qq D.nilI))))]
def Wu0:MC:=.r0 Yyz
def Wgp:MC:=.seq Wux (.seq (.seq Wuy (.cond (Qn 12) (.seq Wuz .ret) .skip)) (.seq Wu0 .ret))
def Yh9:MC:=.seq Wuw Wgp
attribute [go_sem] Yyv Yyw Yyx Yyy Yyz
theorem Wzi:KK QP 40 f40 [1,19] Yh9 [(Qy 2),(Qy 3)] 20:=by refine⟨func40,?_,?_,?_,?_⟩<;>kernel_rfl
theorem Wu1:Xaa QP 40=true:=by kernel_rfl
theorem Wu2 (h:GI QP gp [(Qy 2),(Qy 3)] res 20 Yh9 args):Does QP gp 40 args res:=Wzi.i Wu1 h
def Yy0:=[Qa (Qv 2) (Qd (Qo (Qp (Qq (Qr Qu 0)))))]
def Wu3:MC:=.r0 Yy0
def Yy1:=[Qa (Qv 3) (Q1 [(Qr Qu 0)])]
def Wu4:MC:=.r0 Yy1
def Yy2:=[Qa (Qv 4) (Qd (Qn 0)),Qa (Qv 5) (Q8 112 (Qn 3)),Qa (Qv 6) (Qh 68 [(Qn 4),(Qn 5)])]
def Wu5:MC:=.r0 Yy2
def Yy3:=[Qa (Qv 7) (Qg 0 (Qn 3)),Qa (Qv 8) (Qf 1 false (Qn 7)),Qa (Qv 2) (Qd (Qn 8))]
def Wu6:MC:=.r0 Yy3
def Yy4:=[Qa (Qv 2) (Qd (Qo (Qp (Qq (Qr Qu 0)))))]
def Wu7:MC:=.r0 Yy4
def Wgq:MC:=.seq Wu4 (.seq (.seq Wu5 (.cond (Qn 6) (.seq Wu6 .ret) .skip)) (.seq Wu7 .ret))
def Yia:MC:=.seq Wu3 Wgq
attribute [go_sem] Yy0 Yy1 Yy2 Yy3 Yy4
theorem Wzj:KK QP 41 f41 [] Yia [(Qy 2)] 9:=by refine⟨func41,?_,?_,?_,?_⟩<;>kernel_rfl
theorem Wu8:Xaa QP 41=true:=by kernel_rfl
theorem Wu9 (h:GI QP gp [(Qy 2)] res 9 Yia args):Does QP gp 41 args res:=Wzj.i Wu8 h
def Yy5:=[Qa (Qv 1) (Qz (Qn 0)),Qa (Qv 2) (Q1 [(Qr Qu 0),(Q0 [])])]
def Wva:MC:=.r0 Yy5
def Yy6:=[Qa (Qv 10) (Qf 1 false (Qn 1)),Qa (Qv 11) (Qw (Qn 10)),Qa (Qv 12) (Qg 2 (Qn 11)),Qa (Qv 13) (Qf 1 false (Qn 12)),Qa (Qv 14) (Qf 1 false (Qn 1)),Qa (Qv 15) (Qw (Qn 14)),Qa (Qv 16) (Qg 0 (Qn 15)),Qa (Qv 17) (Qg 0 (Qn 16)),Qa (Qv 18) (Qf 1 false (Qn 17)),Qa (Qv 19) (Qj 1 (Qn 13) (Qn 18)),Qa (Qv 20) (Qf 1 false (Qn 19)),Qa (Qv 21) (Qx [(Qr Qu 0),(Q0 [])] [(0,(1,(Qn 20)))]),Qa (Qv 3) (Q1 [(Qr Qu 0),(Q0 [])]),Qa none (Ql 2 (Qn 3) (Qn 21))]
def Wvb:MC:=.reg true Yy6
def Yy7:=[Qa (Qv 22) (Qf 1 false (Qn 1)),Qa (Qv 23) (Qh 69 [(Qn 22)])]
def Wvc:MC:=.r0 Yy7
def Yy8:=[Qa (Qv 5) (Qd (Qn 25))]
def Wvd:MC:=.r0 Yy8
def Yy9:=[Qa (Qv 27) (Qf 1 false (Qn 1)),Qa (Qv 28) (Qw (Qn 27)),Qa (Qv 29) (Qg 0 (Qn 28)),Qa (Qv 30) (Qf 2 true (Qn 29)),Qa (Qv 31) (Qd (Qn 5)),Qa (Qv 32) (Qh 50 [(Qn 30),(Qn 31)]),Qa (Qv 26) (Qd (Qn 32)),Qa (Qv 33) (Qi (Qn 26) 0),Qa (Qv 34) (Qi (Qn 26) 1),Qa (Qv 6) (Qd (Qn 33)),Qa (Qv 7) (Qd (Qn 34))]
def Wve:MC:=.r0 Yy9
def Yza:=[Qa (Qv 36) (Qf 1 false (Qn 1)),Qa (Qv 37) (Qw (Qn 36)),Qa (Qv 38) (Qg 0 (Qn 37)),Qa (Qv 39) (Qf 2 true (Qn 38)),Qa (Qv 40) (Qd (Qn 5)),Qa (Qv 41) (Qh 51 [(Qn 39),(Qn 40)]),Qa (Qv 35) (Qd (Qn 41)),Qa (Qv 42) (Qi (Qn 35) 0),Qa (Qv 43) (Qi (Qn 35) 1),Qa (Qv 8) (Qd (Qn 42)),Qa (Qv 9) (Qd (Qn 43))]
def Wvf:MC:=.r0 Yza
def Yzb:=[Qa (Qv 44) (Qg 1 (Qn 3)),Qa (Qv 45) (Qf 1 false (Qn 44)),Qa (Qv 46) (Qf 1 false (Qn 1)),Qa (Qv 47) (Qw (Qn 46)),Qa (Qv 48) (Qg 0 (Qn 47)),Qa (Qv 49) (Qg 1 (Qn 48)),Qa (Qv 50) (Qf 1 false (Qn 49)),Qa (Qv 51) (Qd (Qn 5)),Qa (Qv 52) (Qj 6 (Qn 50) (Qn 51)),Qa (Qv 53) (Qg 0 (Qn 52)),Qa (Qv 54) (Qf 1 false (Qn 53)),Qa (Qv 55) (Qf 1 false (Qn 1)),Qa (Qv 56) (Qw (Qn 55)),Qa (Qv 57) (Qg 0 (Qn 56)),Qa (Qv 58) (Qg 1 (Qn 57)),Qa (Qv 59) (Qf 1 false (Qn 58)),Qa (Qv 60) (Qd (Qn 5)),Qa (Qv 61) (Qj 6 (Qn 59) (Qn 60)),Qa (Qv 62) (Qg 1 (Qn 61)),Qa (Qv 63) (Qf 3 true (Qn 62)),Qa (Qv 64) (Qd (Qn 6)),Qa (Qv 65) (Qf 1 false (Qn 1)),Qa (Qv 66) (Qd (Qn 8)),Qa (Qv 67) (Qh 70 [(Qn 65),(Qn 66)]),Qa (Qv 68) (Qx [(Qr Qu 0),(Qr Qu 0),(Qr Qu 0),(D.str (Q4 #[])),(Q0 []),(Q0 [])] [(0,(1,(Qn 54))),(1,(3,(Qn 63))),(4,(1,(Qn 64))),(5,(1,(Qn 67)))]),Qa (Qv 69) (Q7 6 [(Qr Qu 0),(Qr Qu 0),(Qr Qu 0),(D.str (Q4 #[])),(Q0 []),(Q0 [])] 1 [(0,(Qn 68))]),Qa (Qv 70) (Q9 43 6 88 (Qn 45) (Qn 69)),Qa (Qv 71) (Qg 1 (Qn 3)),Qa none (Ql 1 (Qn 71) (Qn 70))]
def Wvg:MC:=.reg true Yzb
def Wgr:MC:=.rf (Qn 23) [24,25] Wvd (.blk 1 (.seq Wve (.seq Wvf Wvg)))
def Yib:=[Qa (Qv 72) (Qf 2 true (Qn 3)),Qa none (Ql 2 (Qn 2) (Qn 72))]
def Wgs:MC:=.r0 Yib
def Wgt:MC:=.seq Wvb (.seq (.seq Wvc (.blk 0 Wgr)) (.seq Wgs .ret))
def Yic:MC:=.seq Wva Wgt
attribute [go_sem] Yy5 Yy6 Yy7 Yy8 Yy9 Yza Yzb Yib
theorem Wzk:KK QP 42 f42 [1] Yic [(Q2 2 2 true)] 73:=by refine⟨func42,?_,?_,?_,?_⟩<;>kernel_rfl
theorem Wvh:Xaa QP 42=true:=by kernel_rfl
theorem Wvi (h:GI QP gp [(Q2 2 2 true)] res 73 Yic args):Does QP gp 42 args res:=Wzk.i Wvh h
def Yzc:=[Qa (Qv 1) (Qz (Qn 0)),Qa (Qv 2) (Qd (Qo (Qp (Qq D.nilF))))]
def Wvj:MC:=.r0 Yzc
def Yzd:=[Qa (Qv 3) (MOp.mkF (Go.Fn.func 107) [(Qn 1)]),Qa (Qv 2) (Qd (Qn 3))]
def Wvk:MC:=.r0 Yzd
def Yze:MC:=.seq Wvj (.seq Wvk .ret)
attribute [go_sem] Yzc Yzd
theorem Wzl:KK QP 69 f69 [1] Yze [(Qy 2)] 4:=by refine⟨func69,?_,?_,?_,?_⟩<;>kernel_rfl
theorem Wvl:Xaa QP 69=true:=by kernel_rfl
theorem Wvm (h:GI QP gp [(Qy 2)] res 4 Yze args):Does QP gp 69 args res:=Wzl.i Wvl h
def Xi0:=[Qa (Qv 4) (Qd (Qo (Qp A.nil)))]
def Wvn:MC:=.r0 Xi0
def Xi1:=[Qa (Qv 5) (Qd (Qo (Qp A.nil)))]
def Wvo:MC:=.r0 Xi1
def Xi2:=[Qa (Qv 8) (Qd (Qn 1)),Qa (Qv 9) (Qk Qt (Qn 8)),Qa (Qv 10) (Qd (Qo (Qp (Qq (Qr Qu 0)))))]
def Wvp:MC:=.r0 Xi2
def Xg8:=[Qa (Qv 11) (Qe Qt Q5 (Qn 10) (Qn 9))]
def Wvq:MC:=.r0 Xg8
def Xi3:=[Qa (Qv 12) (Qj 1 (Qn 8) (Qn 10)),Qa (Qv 13) (Qf 1 false (Qn 12)),Qa (Qv 7) (Qd (Qn 13))]
def Wvr:MC:=.r0 Xi3
def Xi4:=[Qa (Qv 14) (Qd (Qn 5)),Qa (Qv 15) (Qd (Qn 0)),Qa (Qv 16) (Qw (Qn 15)),Qa (Qv 17) (Qg 2 (Qn 16)),Qa (Qv 18) (Qf 1 false (Qn 17)),Qa (Qv 19) (Qd (Qn 7)),Qa (Qv 20) (Qj 1 (Qn 18) (Qn 19)),Qa (Qv 21) (Qf 1 false (Qn 20)),Qa (Qv 22) (Q7 1 [(Qr Qu 0)] 1 [(0,(Qn 21))]),Qa (Qv 23) (Q9 3 1 8 (Qn 14) (Qn 22)),Qa (Qv 5) (Qd (Qn 23))]
def Wvs:MC:=.r0 Xi4
def Xfc:=[Qa (Qv 24) (Qe Qt Q6 (Qn 10) (Qo (Qp (Qq (Qr Qu 1))))),Qa (Qv 10) (Qd (Qn 24))]
def Wgu:MC:=.r0 Xfc
def Wgv:MC:=.seq Wvq (.seq (.cond (Qn 11) .skip (Q3 0)) (.seq (.blk 1 (.seq Wvr Wvs)) Wgu))
def Xfd:=[Qa (Qv 25) (Qd (Qn 5)),Qa (Qv 4) (Qd (Qn 25))]
def Wgw:MC:=.r0 Xfd
def Wgx:MC:=.seq Wvo (.seq (.seq Wvp (.blk 0 (.loop Wgv))) (.seq Wgw .ret))
def Yid:MC:=.seq Wvn Wgx
theorem Wzm:KK QP 70 f70 [] Yid [(Qy 4)] 26:=by refine⟨func70,?_,?_,?_,?_⟩<;>kernel_rfl
theorem Wvt:Xaa QP 70=true:=by kernel_rfl
theorem Wvu (h:GI QP gp [(Qy 4)] res 26 Yid args):Does QP gp 70 args res:=Wzm.i Wvt h
def Yie:=[Qa (Qv 6) MOp.mkM,Qa (Qv 3) (Qd (Qn 6))]
def Wgy:MC:=.r0 Yie
def Yif:=[Qa (Qv 7) (Qf 1 false (Qn 1)),Qa (Qv 8) (Qw (Qn 7)),Qa (Qv 9) (Qg 2 (Qn 8)),Qa (Qv 10) (Qf 1 false (Qn 9)),Qa (Qv 11) (Qk Qt (Qn 10)),Qa (Qv 12) (Qd (Qo (Qp (Qq (Qr Qu 0)))))]
def Wgz:MC:=.r0 Yif
def Yig:=[Qa (Qv 13) (Qe Qt Q5 (Qn 12) (Qn 11))]
def Wg0:MC:=.r0 Yig
def Yih:=[Qa (Qv 14) (Qd (Qn 12)),Qa (Qv 15) (Qj 1 (Qn 10) (Qn 12)),Qa (Qv 16) (Qf 1 false (Qn 15)),Qa (Qv 4) (Qd (Qn 14)),Qa (Qv 5) (Qd (Qn 16))]
def Wg1:MC:=.r0 Yih
def Yii:=[Qa (Qv 17) (Qd (Qn 3)),Qa (Qv 18) (Qd (Qn 5)),Qa (Qv 19) (MOp.lkp false (Qp (Qq (Qs false))) false [Qt] (Qn 17) (Qn 18))]
def Wg2:MC:=.r0 Yii
def X0d:=[Qa (Qv 20) (Qd (Qn 3)),Qa (Qv 21) (Qd (Qn 5)),Qa none (MOp.mupd false [Qt] (Qn 20) (Qn 21) (Qo (Qp (Qq (Qs true)))))]
def Yqb:MC:=.r0 X0d
def X0e:=[Qa (Qv 22) (Qd (Qn 0)),Qa (Qv 23) (Qd (Qn 5)),Qa (Qv 24) (Qd (Qn 4)),Qa (Qv 25) (MOp.callv (Qn 22) [(Qn 23),(Qn 24)]),Qa (Qv 26) (MOp.not (Qn 25))]
def Yqc:MC:=.r0 X0e
def Yqd:MC:=.seq Wg1 (.seq (.seq Wg2 (.cond (Qn 19) (Q3 1) .skip)) (.seq Yqb (.seq Yqc (.cond (Qn 26) (Q3 0) .skip))))
def X0f:=[Qa (Qv 27) (Qe Qt Q6 (Qn 12) (Qo (Qp (Qq (Qr Qu 1))))),Qa (Qv 12) (Qd (Qn 27))]
def Yqe:MC:=.r0 X0f
def Yqf:MC:=.seq Wgz (.blk 0 (.loop (.seq Wg0 (.seq (.cond (Qn 13) .skip (Q3 0)) (.seq (.blk 1 Yqd) Yqe)))))
def X0g:MC:=.scope (.seq Wgy (.seq .skip Yqf))
attribute [go_sem] Yie Yif Yig Yih Yii X0d X0e X0f
theorem Wvv:KK QP 107 f107 [] X0g [] 28:=by refine⟨func107,?_,?_,?_,?_⟩<;>kernel_rfl
theorem Wg3:Xaa QP 107=true:=by kernel_rfl
theorem Yqg (h:GT QP gp [] pre R 28 X0g args):Tri QP gp 107 args pre R:=Wvv.t h
end Go.Fw.L07
