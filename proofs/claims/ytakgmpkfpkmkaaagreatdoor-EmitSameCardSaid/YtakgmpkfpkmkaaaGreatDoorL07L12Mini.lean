/- Small codes. -/
import Derived.Test.YtakgmpkfpkmkaaaGreatDoorFd
import Derived.Test.YtakgmpkfpkmkaaaGreatDoorProg
set_option linter.all false
namespace Go.Fw.L07
open Go Go.Fw
open Go.Proofs.Tryz renaming prog->QP
open Go.Proofs.Tryz (f117 f118 f119 f149 f55 f77 f78 f79 f80 f81 func117 func118 func119 func149 func55 func77 func78 func79 func80 func81)
open Go.Fw.MO renaming op->Qa,opx->Qc
open Go.Fw.MOp renaming mv->Qd,bin->Qe,load->Qf,fad->Qg,call->Qh,ext->Qi,iad->Qj,len->Qk,store->Ql,nck->Qz,alloc->Q0,callv->Q3,ibox->Q4,build->Q5,bslice->Q8,not->Q9,box->QB,app->QD,mkF->QE
open Go.Fw.Opd renaming t->Qn,c->Qo
open Go.Fw.V renaming one->Qp
open Go.Fw.A renaming d->Qq
open Go.Fw.D renaming int->Qr,bool->Qs,sl->QA,nilP->QC
open Go.Fw.Leaf renaming i->Qt
open Go.IntKind renaming i64->Qu
open Option renaming some->Qv
open Go.BinOp renaming add->Qw,lss->Q1,neq->Q2,gtr->Q7,eql->QF
open Go.Fw.RV renaming t->Qx
open Go.Fw.MC renaming exit->Qy
open _root_.ByteArray renaming mk->Q6
variable {gp:Heap} {args:List V} {res:V} {pre:List Ch} {R:V->List Ch->Prop}
def Yxu:=[Qa (Qv 1) (Q4 (Qn 0)),Qa (Qv 2) (Qd (Qo (Qp A.nil))),Qa (Qv 3) (Qd (Qo (Qp (Qq (Qr Qu 0)))))]
def Ws7:MC:=.r0 Yxu
def Xd2:=[Qa (Qv 12) (Qf 2 true (Qn 1)),Qa (Qv 13) (Qh 78 [(Qn 12)]),Qa (Qv 11) (Qd (Qn 13)),Qa (Qv 14) (Qi (Qn 11) 0),Qa (Qv 15) (Qi (Qn 11) 1),Qa (Qv 4) (Qd (Qn 14)),Qa (Qv 5) (Qd (Qn 15))]
def Ws8:MC:=.r0 Xd2
def Yxv:=[Qa (Qv 16) (Qd (Qn 5)),Qa (Qv 17) (Qe Qt Q2 (Qn 16) (Qo (Qp (Qq (Qr Qu 0)))))]
def Ws9:MC:=.r0 Yxv
def Yxw:=[Qa (Qv 18) (Qd (Qn 5)),Qa (Qv 2) (Qd (Qo (Qp A.nil))),Qa (Qv 3) (Qd (Qn 18))]
def Wta:MC:=.r0 Yxw
def Yxx:=[Qa (Qv 19) (Qd (Qn 4)),Qa (Qv 20) (MOp.mkMv (Go.Fn.func 79) (Qn 19)),Qa (Qv 6) (Qd (Qn 20))]
def Wtb:MC:=.r0 Yxx
def Ygd:=[Qa (Qv 21) MOp.mkM,Qa (Qv 7) (Qd (Qn 21))]
def Wev:MC:=.r0 Ygd
def Yge:=[Qa (Qv 8) (Qd (Qo (Qp A.nil)))]
def Wew:MC:=.r0 Yge
def Ygf:=[Qa (Qv 22) (Qd (Qn 4)),Qa (Qv 23) (Qh 80 [(Qn 22)]),Qa (Qv 24) (Qk Qt (Qn 23)),Qa (Qv 25) (Qd (Qo (Qp (Qq (Qr Qu 0)))))]
def Wex:MC:=.r0 Ygf
def Ygg:=[Qa (Qv 26) (Qe Qt Q1 (Qn 25) (Qn 24))]
def Wey:MC:=.r0 Ygg
def Ygh:=[Qa (Qv 27) (Qd (Qn 25)),Qa (Qv 28) (Qj 1 (Qn 23) (Qn 25)),Qa (Qv 29) (Qf 1 false (Qn 28)),Qa (Qv 9) (Qd (Qn 27)),Qa (Qv 10) (Qd (Qn 29))]
def Wez:MC:=.r0 Ygh
def Ygi:=[Qa (Qv 30) (Qd (Qn 6)),Qa (Qv 31) (Qd (Qn 9)),Qa (Qv 32) (Qd (Qn 10)),Qa (Qv 33) (Q3 (Qn 30) [(Qn 31),(Qn 32)])]
def We0:MC:=.r0 Ygi
def Ygj:=[Qa (Qv 34) (Qd (Qn 7)),Qa (Qv 35) (Qd (Qn 9)),Qa none (MOp.mupd false [Qt] (Qn 34) (Qn 35) (Qo (Qp (Qq (Qs true)))))]
def We1:MC:=.r0 Ygj
def Ygk:=[Qa (Qv 36) (Qd (Qn 8)),Qa (Qv 37) (Qd (Qn 7)),Qa (Qv 38) (Qk Leaf.b (Qn 37)),Qa (Qv 39) (Q8 1 [(Qr Qu 0)] 1 [(0,(Qn 38))]),Qa (Qv 40) (QD 3 1 8 (Qn 36) (Qn 39)),Qa (Qv 8) (Qd (Qn 40))]
def We2:MC:=.r0 Ygk
def Ygl:=[Qa (Qv 41) (Qd (Qn 8)),Qa (Qv 42) (Q8 1 [(Qr Qu 0)] 1 [(0,(Qo (Qp (Qq (Qr Qu 0)))))]),Qa (Qv 43) (QD 3 1 8 (Qn 41) (Qn 42)),Qa (Qv 8) (Qd (Qn 43))]
def We3:MC:=.r0 Ygl
def We4:MC:=.seq (.seq We0 (.cond (Qn 33) (.seq We1 (.seq We2 (Qy 1))) .skip)) We3
def Ygm:=[Qa (Qv 44) (Qe Qt Qw (Qn 25) (Qo (Qp (Qq (Qr Qu 1))))),Qa (Qv 25) (Qd (Qn 44))]
def We5:MC:=.r0 Ygm
def We6:MC:=.seq Wey (.seq (.cond (Qn 26) .skip (Qy 0)) (.seq (.blk 1 (.seq Wez We4)) We5))
def Ygn:=[Qa (Qv 45) (Qd (Qn 8)),Qa (Qv 2) (Qd (Qn 45)),Qa (Qv 3) (Qd (Qo (Qp (Qq (Qr Qu 0)))))]
def We7:MC:=.r0 Ygn
def We8:MC:=.seq Wew (.seq (.seq Wex (.blk 0 (.loop We6))) (.seq We7 .ret))
def We9:MC:=.seq (.seq Ws9 (.cond (Qn 17) (.seq Wta .ret) .skip)) (.seq Wtb (.seq Wev We8))
def Ygo:MC:=.seq Ws7 (.seq Ws8 We9)
attribute [go_sem] Yxu Yxv Yxw Yxx Ygd Yge Ygf Ygg Ygh Ygi Ygj Ygk Ygl Ygm Ygn
theorem Wy8:KK QP 55 f55 [1] Ygo [(Qx 2),(Qx 3)] 46:=by refine⟨func55,?_,?_,?_,?_⟩<;>kernel_rfl
theorem Wtc:Xaa QP 55=true:=by kernel_rfl
theorem Wtd (h:GI QP gp [(Qx 2),(Qx 3)] res 46 Ygo args):Does QP gp 55 args res:=Wy8.i Wtc h
def Yxy:=[Qa (Qv 1) (Q4 (Qn 0)),Qa (Qv 2) (Qd (Qo (Qp A.nil))),Qa (Qv 3) (Qd (Qo (Qp (Qq (Qr Qu 0)))))]
def Wte:MC:=.r0 Yxy
def Xiu:=[Qa (Qv 8) (Qf 2 true (Qn 1)),Qa (Qv 9) (Qh 78 [(Qn 8)]),Qa (Qv 7) (Qd (Qn 9)),Qa (Qv 10) (Qi (Qn 7) 0),Qa (Qv 11) (Qi (Qn 7) 1),Qa (Qv 4) (Q0 [QC]),Qa none (Ql 1 (Qn 4) (Qn 10)),Qa (Qv 5) (Qd (Qn 11))]
def Wtf:MC:=.r0 Xiu
def Yxz:=[Qa (Qv 12) (Qd (Qn 5)),Qa (Qv 13) (Qe Qt Q2 (Qn 12) (Qo (Qp (Qq (Qr Qu 0)))))]
def Wtg:MC:=.r0 Yxz
def Yx0:=[Qa (Qv 14) (Qd (Qn 5)),Qa (Qv 2) (Qd (Qo (Qp A.nil))),Qa (Qv 3) (Qd (Qn 14))]
def Wth:MC:=.r0 Yx0
def Yx1:=[Qa (Qv 6) (Q0 [D.nilF])]
def Wti:MC:=.r0 Yx1
def Ygp:=[Qa (Qv 15) (QE (Go.Fn.func 117) [(Qn 4),(Qn 6)]),Qa none (Ql 1 (Qn 6) (Qn 15))]
def Wfa:MC:=.r0 Ygp
def Ygq:=[Qa (Qv 16) (Qf 1 false (Qn 6)),Qa (Qv 17) (Qf 1 false (Qn 4)),Qa (Qv 18) (Qz (Qn 17)),Qa (Qv 19) (Qg 0 (Qn 18)),Qa (Qv 20) (Qg 0 (Qn 19)),Qa (Qv 21) (Qf 1 false (Qn 20)),Qc (Qv 22) (Q3 (Qn 16) [(Qn 21),(Qo (Qp (Qq (Qr Qu 1))))])]
def Wfb:MC:=.reg true Ygq
def Xfa:=[Qa (Qv 23) (Qf 1 false (Qn 4)),Qa (Qv 24) (Qz (Qn 23)),Qa (Qv 25) (Qg 2 (Qn 24)),Qa (Qv 26) (Qf 1 false (Qn 25)),Qa (Qv 2) (Qd (Qn 26)),Qa (Qv 3) (Qd (Qo (Qp (Qq (Qr Qu 0)))))]
def Wfc:MC:=.r0 Xfa
def Wfd:MC:=.seq Wti (.seq Wfa (.seq Wfb (.seq Wfc .ret)))
def Wfe:MC:=.seq Wtf (.seq (.seq Wtg (.cond (Qn 13) (.seq Wth .ret) .skip)) Wfd)
def Ygr:MC:=.seq Wte Wfe
attribute [go_sem] Yxy Yxz Yx0 Yx1 Ygp Ygq
theorem Wy9:KK QP 77 f77 [1] Ygr [(Qx 2),(Qx 3)] 27:=by refine⟨func77,?_,?_,?_,?_⟩<;>kernel_rfl
theorem Wtj:Xaa QP 77=true:=by kernel_rfl
theorem Wtk (h:GI QP gp [(Qx 2),(Qx 3)] res 27 Ygr args):Does QP gp 77 args res:=Wy9.i Wtj h
def Yx2:=[Qa (Qv 1) (Q4 (Qn 0)),Qa (Qv 2) (Qd (Qo (Qp (Qq QC)))),Qa (Qv 3) (Qd (Qo (Qp (Qq (Qr Qu 0)))))]
def Wtl:MC:=.r0 Yx2
def Yx3:=[Qa (Qv 4) (Qf 2 true (Qn 1)),Qa (Qv 5) (Qh 53 [(Qn 4)]),Qa (Qv 6) (Q9 (Qn 5))]
def Wtm:MC:=.r0 Yx3
def Yx4:=[Qa (Qv 2) (Qd (Qo (Qp (Qq QC)))),Qa (Qv 3) (Qd (Qo (Qp (Qq (Qr Qu 72)))))]
def Wtn:MC:=.r0 Yx4
def Yx5:=[Qa (Qv 7) (Qf 2 true (Qn 1)),Qa (Qv 8) (Qg 1 (Qn 1)),Qa (Qv 9) (Qf 1 false (Qn 8)),Qa (Qv 10) (Qk Qt (Qn 9)),Qa (Qv 11) (MOp.mkS 1 8 [(Qr Qu 0)] (Qn 10)),Qa (Qv 12) (Q5 [(Qr Qu 0),(QA []),(QA [])] [(0,(2,(Qn 7))),(2,(1,(Qn 11)))]),Qa (Qv 13) (QB (Qn 12)),Qa (Qv 2) (Qd (Qn 13)),Qa (Qv 3) (Qd (Qo (Qp (Qq (Qr Qu 0)))))]
def Wto:MC:=.reg true Yx5
def Ygs:MC:=.seq Wtl (.seq (.seq Wtm (.cond (Qn 6) (.seq Wtn .ret) .skip)) (.seq Wto .ret))
attribute [go_sem] Yx2 Yx3 Yx4 Yx5
theorem Wza:KK QP 78 f78 [1] Ygs [(Qx 2),(Qx 3)] 14:=by refine⟨func78,?_,?_,?_,?_⟩<;>kernel_rfl
theorem Ygt:Xaa QP 78=true:=by kernel_rfl
theorem Wff (h:GT QP gp [(Qx 2),(Qx 3)] pre R 14 Ygs args):Tri QP gp 78 args pre R:=Wza.t h
def Yx6:=[Qa (Qv 6) (Qd (Qo (Qp (Qq (Qs false)))))]
def Wtp:MC:=.r0 Yx6
def Yx7:=[Qa (Qv 8) (Qd (Qn 0)),Qa (Qv 9) (Qz (Qn 8)),Qa (Qv 10) (Qg 0 (Qn 9)),Qa (Qv 11) (Qg 1 (Qn 10)),Qa (Qv 12) (Qf 1 false (Qn 11)),Qa (Qv 13) (Qd (Qn 1)),Qa (Qv 14) (Qj 6 (Qn 12) (Qn 13)),Qa (Qv 15) (Qf 6 true (Qn 14)),Qa (Qv 7) (Q0 [(Qr Qu 0),(Qr Qu 0),(Qr Qu 0),(D.str (Q6 #[])),(QA []),(QA [])]),Qa none (Ql 6 (Qn 7) (Qn 15))]
def Wtq:MC:=.r0 Yx7
def Yx8:=[Qa (Qv 17) (Qh 118 []),Qa (Qv 18) (Qg 0 (Qn 7)),Qa (Qv 19) (Qf 1 false (Qn 18)),Qa (Qv 20) (MOp.idxA 3 (Qn 17) (Qn 19)),Qa (Qv 21) (Q9 (Qn 20)),Qa (Qv 16) (Qd (Qn 21))]
def Wtr:MC:=.reg true Yx8
def Yx9:=[Qa (Qv 23) (Qg 5 (Qn 7)),Qa (Qv 24) (Qf 1 false (Qn 23)),Qa (Qv 25) (Qk Qt (Qn 24)),Qa (Qv 26) (Qe Qt QF (Qn 25) (Qo (Qp (Qq (Qr Qu 0))))),Qa (Qv 22) (Qd (Qn 26))]
def Wts:MC:=.r0 Yx9
def Ygu:=[Qa (Qv 6) (Qd (Qo (Qp (Qq (Qs false)))))]
def Wfg:MC:=.r0 Ygu
def Wfh:MC:=.seq Wtq (.blk 0 (.seq (.blk 2 (.blk 1 (.seq (.seq (.seq Wtr (.cond (Qn 16) (Qy 1) .skip)) (.seq Wts (.cond (Qn 22) (Qy 2) .skip))) (Qy 0)))) (.seq (.seq Wfg .ret) (Qy 0))))
def Ygv:=[Qa (Qv 27) (Qd (Qn 2)),Qa (Qv 28) (Qe Qt Q7 (Qn 27) (Qo (Qp (Qq (Qr Qu 1))))),Qa (Qv 6) (Qd (Qn 28))]
def Wfi:MC:=.r0 Ygv
def Ygw:MC:=.seq Wtp (.seq Wfh (.seq Wfi .ret))
attribute [go_sem] Yx6 Yx7 Yx8 Yx9 Ygu Ygv
theorem Wzb:KK QP 79 f79 [] Ygw [(Qx 6)] 29:=by refine⟨func79,?_,?_,?_,?_⟩<;>kernel_rfl
theorem Wtt:Xaa QP 79=true:=by kernel_rfl
theorem Wfj (h:GT QP gp [(Qx 6)] pre R 29 Ygw args):Tri QP gp 79 args pre R:=Wzb.t h
def Yya:=[Qa (Qv 1) (QB (Qn 0)),Qa (Qv 2) (Qd (Qo (Qp A.nil)))]
def Wtu:MC:=.r0 Yya
def Yyb:=[Qa (Qv 4) (Qf 1 false (Qn 1)),Qa (Qv 5) (Qz (Qn 4)),Qa (Qv 6) (Qg 2 (Qn 5)),Qa (Qv 7) (Qf 1 false (Qn 6)),Qa (Qv 8) (Qj 1 (Qn 7) (Qo (Qp (Qq (Qr Qu 0))))),Qa (Qv 9) (Qf 1 false (Qn 8)),Qa (Qv 10) (Qe Qt Qw (Qn 9) (Qo (Qp (Qq (Qr Qu 1))))),Qa (Qv 11) (Qj 1 (Qn 7) (Qo (Qp (Qq (Qr Qu 0))))),Qa none (Ql 1 (Qn 11) (Qn 10))]
def Wtv:MC:=.r0 Yyb
def Yyc:=[Qa (Qv 12) (Qf 1 false (Qn 1)),Qa (Qv 13) (Qh 119 [(Qn 12)])]
def Wtw:MC:=.r0 Yyc
def Yyd:=[Qa (Qv 3) (Q0 [(Qr Qu 0),(Qr Qu 0)]),Qa none (Ql 2 (Qn 3) (Qn 14))]
def Wtx:MC:=.r0 Yyd
def Yye:=[Qa (Qv 15) (Qf 1 false (Qn 1)),Qa (Qv 16) (Qz (Qn 15)),Qa (Qv 17) (Qg 2 (Qn 16)),Qa (Qv 18) (Qf 1 false (Qn 17)),Qa (Qv 19) (Qg 1 (Qn 3)),Qa (Qv 20) (Qf 1 false (Qn 19)),Qa (Qv 21) (Qj 1 (Qn 18) (Qn 20)),Qa (Qv 22) (Qf 1 false (Qn 21)),Qa (Qv 23) (Qe Qt Qw (Qn 22) (Qo (Qp (Qq (Qr Qu 1))))),Qa (Qv 24) (Qj 1 (Qn 18) (Qn 20)),Qa none (Ql 1 (Qn 24) (Qn 23))]
def Wty:MC:=.reg true Yye
def Wtz:MC:=.rf (Qn 13) [14] Wtx (.blk 1 Wty)
def Yyf:=[Qa (Qv 25) (Qf 1 false (Qn 1)),Qa (Qv 26) (Qz (Qn 25)),Qa (Qv 27) (Qg 2 (Qn 26)),Qa (Qv 28) (Qf 1 false (Qn 27)),Qa (Qv 2) (Qd (Qn 28))]
def Wt0:MC:=.r0 Yyf
def Wfk:MC:=.seq Wtv (.seq (.seq Wtw (.blk 0 Wtz)) (.seq Wt0 .ret))
def Ygx:MC:=.seq Wtu Wfk
attribute [go_sem] Yya Yyb Yyc Yyd Yye Yyf
theorem Wzc:KK QP 80 f80 [] Ygx [(Qx 2)] 29:=by refine⟨func80,?_,?_,?_,?_⟩<;>kernel_rfl
theorem Yyg:Xaa QP 80=true:=by kernel_rfl
theorem Wfl (h:GT QP gp [(Qx 2)] pre R 29 Ygx args):Tri QP gp 80 args pre R:=Wzc.t h
def Yyh:=[Qa (Qv 1) (Q4 (Qn 0)),Qa (Qv 2) (Qd (Qo (Qp A.nil))),Qa (Qv 3) (Qd (Qo (Qp (Qq (Qr Qu 0)))))]
def Wt1:MC:=.r0 Yyh
def Xmu:=[Qa (Qv 7) (Qf 2 true (Qn 1)),Qa (Qv 8) (Qh 78 [(Qn 7)]),Qa (Qv 6) (Qd (Qn 8)),Qa (Qv 9) (Qi (Qn 6) 0),Qa (Qv 10) (Qi (Qn 6) 1),Qa (Qv 4) (Qd (Qn 9)),Qa (Qv 5) (Qd (Qn 10))]
def Wt2:MC:=.r0 Xmu
def Yyi:=[Qa (Qv 11) (Qd (Qn 5)),Qa (Qv 12) (Qe Qt Q2 (Qn 11) (Qo (Qp (Qq (Qr Qu 0)))))]
def Wt3:MC:=.r0 Yyi
def Yyj:=[Qa (Qv 13) (Qd (Qn 5)),Qa (Qv 2) (Qd (Qo (Qp A.nil))),Qa (Qv 3) (Qd (Qn 13))]
def Wt4:MC:=.r0 Yyj
def Yyk:=[Qa (Qv 14) (Qd (Qn 4)),Qa (Qv 15) (Qh 80 [(Qn 14)]),Qa (Qv 2) (Qd (Qn 15)),Qa (Qv 3) (Qd (Qo (Qp (Qq (Qr Qu 0)))))]
def Wt5:MC:=.r0 Yyk
def Wfm:MC:=.seq Wt2 (.seq (.seq Wt3 (.cond (Qn 12) (.seq Wt4 .ret) .skip)) (.seq Wt5 .ret))
def Ygy:MC:=.seq Wt1 Wfm
attribute [go_sem] Yyh Yyi Yyj Yyk
theorem Wzd:KK QP 81 f81 [1] Ygy [(Qx 2),(Qx 3)] 16:=by refine⟨func81,?_,?_,?_,?_⟩<;>kernel_rfl
theorem Wt6:Xaa QP 81=true:=by kernel_rfl
theorem Wt7 (h:GI QP gp [(Qx 2),(Qx 3)] res 16 Ygy args):Does QP gp 81 args res:=Wzd.i Wt6 h
def Ygz:=[Qa (Qv 8) (Qf 1 false (Qn 2)),Qa (Qv 9) (Qz (Qn 8)),Qa (Qv 10) (Qg 2 (Qn 9)),Qa (Qv 11) (Qf 1 false (Qn 10)),Qa (Qv 12) (Qd (Qn 0)),Qa (Qv 13) (Qj 1 (Qn 11) (Qn 12)),Qa (Qv 14) (Qf 1 false (Qn 13)),Qa (Qv 15) (Qe Qt Q7 (Qn 14) (Qo (Qp (Qq (Qr Qu 0)))))]
def Wfn:MC:=.r0 Ygz
def Yg0:=[Qa (Qv 16) (Qf 1 false (Qn 2)),Qa (Qv 17) (Qz (Qn 16)),Qa (Qv 18) (Qg 2 (Qn 17)),Qa (Qv 19) (Qf 1 false (Qn 18)),Qa (Qv 20) (Qd (Qn 0)),Qa (Qv 21) (Qd (Qn 1)),Qa (Qv 22) (Qj 1 (Qn 19) (Qn 20)),Qa none (Ql 1 (Qn 22) (Qn 21))]
def Wfo:MC:=.r0 Yg0
def Yg1:=[Qa (Qv 23) (Qf 1 false (Qn 2)),Qa (Qv 24) (Qz (Qn 23)),Qa (Qv 25) (Qg 0 (Qn 24)),Qa (Qv 26) (Qg 1 (Qn 25)),Qa (Qv 27) (Qf 1 false (Qn 26)),Qa (Qv 28) (Qd (Qn 0)),Qa (Qv 29) (Qj 6 (Qn 27) (Qn 28)),Qa (Qv 30) (Qg 5 (Qn 29)),Qa (Qv 31) (Qf 1 false (Qn 30)),Qa (Qv 32) (Qk Qt (Qn 31)),Qa (Qv 33) (Qd (Qo (Qp (Qq (Qr Qu 0)))))]
def Wfp:MC:=.r0 Yg1
def Yg2:=[Qa (Qv 34) (Qe Qt Q1 (Qn 33) (Qn 32))]
def Wfq:MC:=.r0 Yg2
def Xzl:=[Qa (Qv 35) (Qj 1 (Qn 31) (Qn 33)),Qa (Qv 36) (Qf 1 false (Qn 35)),Qa (Qv 7) (Qd (Qn 36))]
def Ypd:MC:=.r0 Xzl
def Xzm:=[Qa (Qv 37) (Qf 1 false (Qn 3)),Qa (Qv 38) (Qd (Qn 7)),Qa (Qv 39) (Qd (Qn 1)),Qa (Qv 40) (Qe Qt Qw (Qn 39) (Qo (Qp (Qq (Qr Qu 1))))),Qa (Qv 41) (Q3 (Qn 37) [(Qn 38),(Qn 40)])]
def Ype:MC:=.r0 Xzm
def Xzn:=[Qa (Qv 42) (Qe Qt Qw (Qn 33) (Qo (Qp (Qq (Qr Qu 1))))),Qa (Qv 33) (Qd (Qn 42))]
def Ypf:MC:=.r0 Xzn
def Ypg:MC:=.seq Wfq (.seq (.cond (Qn 34) .skip (Qy 0)) (.seq (.blk 1 (.seq Ypd Ype)) Ypf))
def Xzo:MC:=.seq (.seq Wfn (.cond (Qn 15) .ret .skip)) (.seq Wfo (.seq Wfp (.blk 0 (.loop Ypg))))
attribute [go_sem] Ygz Yg0 Yg1 Yg2 Xzl Xzm Xzn
theorem Wt8:KK QP 117 f117 [] Xzo [] 43:=by refine⟨func117,?_,?_,?_,?_⟩<;>kernel_rfl
theorem Yg3:Xaa QP 117=true:=by kernel_rfl
theorem Xzp (h:GT QP gp [] pre R 43 Xzo args):Tri QP gp 117 args pre R:=Wt8.t h
def Yg4:=[Qa (Qv 0) (Q0 [(Qs false),(Qs false),(Qs false)])]
def Wfr:MC:=.r0 Yg4
def Yg5:=[Qa (Qv 1) (Q5 [(Qs false),(Qs false),(Qs false)] [(1,(1,(Qo (Qp (Qq (Qs true)))))),(2,(1,(Qo (Qp (Qq (Qs true))))))]),Qa none (Ql 3 (Qn 0) (Qn 1))]
def Wfs:MC:=.r0 Yg5
def Yg6:MC:=.seq Wfr (.seq Wfs .ret)
attribute [go_sem] Yg4 Yg5
theorem Wt9:KK QP 118 f118 [] Yg6 [(RV.cell 0 3 true)] 2:=by refine⟨func118,?_,?_,?_,?_⟩<;>kernel_rfl
theorem Wft:Xaa QP 118=true:=by kernel_rfl
theorem Wfu (h:GI QP gp [(RV.cell 0 3 true)] res 2 Yg6 args):Does QP gp 118 args res:=Wt9.i Wft h
def Yg7:=[Qa (Qv 1) (QB (Qn 0)),Qa (Qv 2) (Qd (Qo (Qp (Qq D.nilF))))]
def Wfv:MC:=.r0 Yg7
def Yg8:=[Qa (Qv 3) (QE (Go.Fn.func 149) [(Qn 1)]),Qa (Qv 2) (Qd (Qn 3))]
def Wfw:MC:=.r0 Yg8
def Yg9:MC:=.seq Wfv (.seq Wfw .ret)
attribute [go_sem] Yg7 Yg8
theorem Wua:KK QP 119 f119 [] Yg9 [(Qx 2)] 4:=by refine⟨func119,?_,?_,?_,?_⟩<;>kernel_rfl
theorem Wfx:Xaa QP 119=true:=by kernel_rfl
theorem Yph (h:GT QP gp [(Qx 2)] pre R 4 Yg9 args):Tri QP gp 119 args pre R:=Wua.t h
def Yha:=[Qa (Qv 7) (Qf 1 false (Qn 1)),Qa (Qv 8) (Qz (Qn 7)),Qa (Qv 9) (Qg 0 (Qn 8)),Qa (Qv 10) (Qg 1 (Qn 9)),Qa (Qv 11) (Qf 1 false (Qn 10)),Qa (Qv 12) (Qk Qt (Qn 11)),Qa (Qv 13) (Qd (Qo (Qp (Qq (Qr Qu 0)))))]
def Wfy:MC:=.r0 Yha
def Yhb:=[Qa (Qv 14) (Qe Qt Q1 (Qn 13) (Qn 12))]
def Wfz:MC:=.r0 Yhb
def Yhc:=[Qa (Qv 15) (Qd (Qn 13)),Qa (Qv 16) (Qj 6 (Qn 11) (Qn 13)),Qa (Qv 17) (Qf 6 true (Qn 16)),Qa (Qv 4) (Q0 [(Qr Qu 0),(Qr Qu 0),(Qr Qu 0),(D.str (Q6 #[])),(QA []),(QA [])]),Qa (Qv 3) (Qd (Qn 15)),Qa none (Ql 6 (Qn 4) (Qn 17))]
def Wf0:MC:=.r0 Yhc
def Yhd:=[Qa (Qv 18) (Qg 5 (Qn 4)),Qa (Qv 19) (Qf 1 false (Qn 18)),Qa (Qv 20) (Qk Qt (Qn 19)),Qa (Qv 21) (Qd (Qo (Qp (Qq (Qr Qu 0)))))]
def Wf1:MC:=.r0 Yhd
def Yhe:=[Qa (Qv 22) (Qe Qt Q1 (Qn 21) (Qn 20))]
def Wf2:MC:=.r0 Yhe
def Xzq:=[Qa (Qv 23) (Qj 1 (Qn 19) (Qn 21)),Qa (Qv 24) (Qf 1 false (Qn 23)),Qa (Qv 6) (Qd (Qn 24))]
def Ypi:MC:=.r0 Xzq
def Xzr:=[Qa (Qv 25) (Qd (Qn 0)),Qa (Qv 26) (Qd (Qn 3)),Qa (Qv 27) (Qd (Qn 6)),Qa (Qv 28) (Q5 [(Qr Qu 0),(Qr Qu 0)] [(0,(1,(Qn 26))),(1,(1,(Qn 27)))]),Qa (Qv 29) (Q3 (Qn 25) [(Qn 28)]),Qa (Qv 30) (Q9 (Qn 29))]
def Ypj:MC:=.r0 Xzr
def Xzs:=[Qa (Qv 31) (Qe Qt Qw (Qn 21) (Qo (Qp (Qq (Qr Qu 1))))),Qa (Qv 21) (Qd (Qn 31))]
def Ypk:MC:=.r0 Xzs
def Ypl:MC:=.seq Wf2 (.seq (.cond (Qn 22) .skip (Qy 2)) (.seq (.blk 3 (.seq Ypi (.seq Ypj (.cond (Qn 30) (Qy 0) .skip)))) Ypk))
def Xzt:=[Qa (Qv 32) (Qe Qt Qw (Qn 13) (Qo (Qp (Qq (Qr Qu 1))))),Qa (Qv 13) (Qd (Qn 32))]
def Ypm:MC:=.r0 Xzt
def Ypn:MC:=.seq (.blk 1 (.seq Wf0 (.seq Wf1 (.blk 2 (.loop Ypl))))) Ypm
def Xzu:MC:=.scope (.seq .skip (.seq Wfy (.blk 0 (.loop (.seq Wfz (.seq (.cond (Qn 14) .skip (Qy 0)) Ypn))))))
attribute [go_sem] Yha Yhb Yhc Yhd Yhe Xzq Xzr Xzs Xzt
theorem Wub:KK QP 149 f149 [] Xzu [] 33:=by refine⟨func149,?_,?_,?_,?_⟩<;>kernel_rfl
theorem Wf3:Xaa QP 149=true:=by kernel_rfl
theorem Ypo (h:GT QP gp [] pre R 33 Xzu args):Tri QP gp 149 args pre R:=Wub.t h
-- f150: trC none
-- f151: trC none
-- f152: trC none
end Go.Fw.L07
