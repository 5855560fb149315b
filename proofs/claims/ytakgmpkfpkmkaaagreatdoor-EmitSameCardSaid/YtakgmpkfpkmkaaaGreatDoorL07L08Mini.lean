/- Small codes. -/
import Derived.Test.YtakgmpkfpkmkaaaGreatDoorFd
import Derived.Test.YtakgmpkfpkmkaaaGreatDoorProg
set_option linter.all false
namespace Go.Fw.L07
open Go Go.Fw
open Go.Proofs.Tryz renaming prog->QP
open Go.Proofs.Tryz (f111 f112 f25 f48 f49 f52 f53 f73 func111 func112 func25 func48 func49 func52 func53 func73)
open Go.Fw.MO renaming op->Qa,chk->Qb
open Go.Fw.MOp renaming mv->Qd,bin->Qe,load->Qf,fad->Qg,call->Qh,ext->Qi,iad->Qj,len->Qk,store->Ql,pick->Qm,alloc->Qw,nck->Q1,bslice->Q3,build->Q4,ibox->Q7,app->Q8,callv->Q9,box->QA,lkp->QB,mkF->QC
open Go.Fw.Opd renaming t->Qn,c->Qo
open Go.Fw.V renaming one->Qp
open Go.Fw.A renaming d->Qq
open Go.Fw.D renaming int->Qr,bool->Qs,sl->Qy
open Go.Fw.Leaf renaming i->Qt
open Go.IntKind renaming i64->Qu
open Option renaming some->Qv
open Go.BinOp renaming sub->Qx,lss->Q5,add->Q6,neq->QD,eql->QE,gtr->QF,geq->QG
open Go.Fw.MC renaming exit->Qz
open Go.Fw.RV renaming t->Q0
open _root_.ByteArray renaming mk->Q2
variable {gp:Heap} {args:List V} {res:V} {pre:List Ch} {R:V->List Ch->Prop}
def Ywr:=[Qa (Qv 1) (Q7 (Qn 0)),Qa (Qv 2) (Qw [(Qr Qu 0),(Qy [])]),Qa (Qv 3) (Qd (Qo (Qp (Qq (Qr Qu 0)))))]
def Wre:MC:=.r0 Ywr
def Yws:=[Qa (Qv 14) (Qf 2 true (Qn 1)),Qa (Qv 15) (Qh 47 [(Qn 14)]),Qa (Qv 13) (Qd (Qn 15)),Qa (Qv 16) (Qi (Qn 13) 0),Qa (Qv 17) (Qi (Qn 13) 1),Qa (Qv 4) (Qd (Qn 16)),Qa (Qv 5) (Qd (Qn 17))]
def Wrf:MC:=.r0 Yws
def Ywt:=[Qa (Qv 18) (Qd (Qn 5)),Qa (Qv 19) (Qe Qt QD (Qn 18) (Qo (Qp (Qq (Qr Qu 0)))))]
def Wrg:MC:=.r0 Ywt
def Ywu:=[Qa (Qv 20) (Q4 [(Qr Qu 0),(Qy [])] []),Qa (Qv 21) (Qd (Qn 5)),Qa none (Ql 2 (Qn 2) (Qn 20)),Qa (Qv 3) (Qd (Qn 21))]
def Wrh:MC:=.r0 Ywu
def Xcq:=[Qa (Qv 22) (Qf 2 true (Qn 1)),Qa (Qv 23) (Qh 48 [(Qn 22)]),Qa (Qv 6) (Qd (Qn 23))]
def Wbp:MC:=.r0 Xcq
def Yc1:=[Qa (Qv 7) (Qw [(Qr Qu 0),(Qy [])])]
def Wbq:MC:=.r0 Yc1
def Yc2:=[Qa (Qv 24) (Qd (Qn 6)),Qa (Qv 25) (Qh 49 [(Qn 24)]),Qa (Qv 26) (Qk Qt (Qn 25)),Qa (Qv 27) (Qd (Qo (Qp (Qq (Qr Qu 0)))))]
def Wbr:MC:=.r0 Yc2
def Yc3:=[Qa (Qv 28) (Qe Qt Q5 (Qn 27) (Qn 26))]
def Wbs:MC:=.r0 Yc3
def Yc4:=[Qa (Qv 29) (Qj 1 (Qn 25) (Qn 27)),Qa (Qv 30) (Qf 1 false (Qn 29)),Qa (Qv 9) (Qd (Qn 30))]
def Wbt:MC:=.r0 Yc4
def Yc5:=[Qa (Qv 31) (Qg 1 (Qn 1)),Qa (Qv 32) (Qf 1 false (Qn 31)),Qa (Qv 33) (Qd (Qn 9)),Qa (Qv 34) (Qj 6 (Qn 32) (Qn 33)),Qa (Qv 35) (Qg 0 (Qn 34)),Qa (Qv 36) (Qf 1 false (Qn 35)),Qa (Qv 37) (Qg 1 (Qn 1)),Qa (Qv 38) (Qf 1 false (Qn 37)),Qa (Qv 39) (Qd (Qn 9)),Qa (Qv 40) (Qj 6 (Qn 38) (Qn 39)),Qa (Qv 41) (Qg 1 (Qn 40)),Qa (Qv 42) (Qf 3 true (Qn 41)),Qa (Qv 43) (Q4 [(Qr Qu 0),(Qr Qu 0),(Qr Qu 0),(D.str (Q2 #[])),(Qy []),(Qy [])] [(0,(1,(Qn 36))),(1,(3,(Qn 42)))]),Qa (Qv 10) (Qw [(Qr Qu 0),(Qr Qu 0),(Qr Qu 0),(D.str (Q2 #[])),(Qy []),(Qy [])]),Qa none (Ql 6 (Qn 10) (Qn 43))]
def Wbu:MC:=.reg true Yc5
def Yc6:=[Qa (Qv 45) (Qf 2 true (Qn 1)),Qa (Qv 46) (Qd (Qn 9)),Qa (Qv 47) (Qh 50 [(Qn 45),(Qn 46)]),Qa (Qv 44) (Qd (Qn 47)),Qa (Qv 48) (Qi (Qn 44) 0),Qa (Qv 49) (Qi (Qn 44) 1),Qa (Qv 50) (Qg 4 (Qn 10)),Qa none (Ql 1 (Qn 50) (Qn 48))]
def Wbv:MC:=.r0 Yc6
def Yc7:=[Qa (Qv 52) (Qf 2 true (Qn 1)),Qa (Qv 53) (Qd (Qn 9)),Qa (Qv 54) (Qh 51 [(Qn 52),(Qn 53)]),Qa (Qv 51) (Qd (Qn 54)),Qa (Qv 55) (Qi (Qn 51) 0),Qa (Qv 56) (Qi (Qn 51) 1),Qa (Qv 11) (Qd (Qn 55)),Qa (Qv 12) (Qd (Qn 56))]
def Wbw:MC:=.r0 Yc7
def Yc8:=[Qa (Qv 57) (Qd (Qn 6)),Qa (Qv 58) (Qd (Qn 11)),Qa (Qv 59) (Qh 52 [(Qn 57),(Qn 58)]),Qa (Qv 60) (Qg 5 (Qn 10)),Qa none (Ql 1 (Qn 60) (Qn 59))]
def Wbx:MC:=.r0 Yc8
def Yc9:=[Qa (Qv 61) (Qg 1 (Qn 7)),Qa (Qv 62) (Qf 1 false (Qn 61)),Qa (Qv 63) (Qf 6 true (Qn 10)),Qa (Qv 64) (Q3 6 [(Qr Qu 0),(Qr Qu 0),(Qr Qu 0),(D.str (Q2 #[])),(Qy []),(Qy [])] 1 [(0,(Qn 63))]),Qa (Qv 65) (Q8 43 6 88 (Qn 62) (Qn 64)),Qa (Qv 66) (Qg 1 (Qn 7)),Qa none (Ql 1 (Qn 66) (Qn 65))]
def Wby:MC:=.r0 Yc9
def Wbz:MC:=.seq Wbv (.seq Wbw (.seq Wbx Wby))
def Yda:=[Qa (Qv 67) (Qe Qt Q6 (Qn 27) (Qo (Qp (Qq (Qr Qu 1))))),Qa (Qv 27) (Qd (Qn 67))]
def Wb0:MC:=.r0 Yda
def Wb1:MC:=.seq (.blk 1 (.seq Wbt (.seq Wbu Wbz))) Wb0
def Ydb:=[Qa (Qv 68) (Qf 2 true (Qn 7)),Qa none (Ql 2 (Qn 2) (Qn 68)),Qa (Qv 3) (Qd (Qo (Qp (Qq (Qr Qu 0)))))]
def Wb2:MC:=.r0 Ydb
def Wb3:MC:=.seq (.seq Wbr (.blk 0 (.loop (.seq Wbs (.seq (.cond (Qn 28) .skip (Qz 0)) Wb1))))) (.seq Wb2 .ret)
def Wb4:MC:=.seq (.seq Wrf (.seq Wrg (.cond (Qn 19) (.seq Wrh .ret) .skip))) (.seq Wbp (.seq Wbq Wb3))
def Ydc:MC:=.seq Wre Wb4
attribute [go_sem] Ywr Yws Ywt Ywu Yc1 Yc2 Yc3 Yc4 Yc5 Yc6 Yc7 Yc8 Yc9 Yda Ydb
theorem Wys:KK QP 25 f25 [1] Ydc [(RV.cell 2 2 true),(Q0 3)] 69:=by refine⟨func25,?_,?_,?_,?_⟩<;>kernel_rfl
theorem Wri:Xaa QP 25=true:=by kernel_rfl
theorem Wrj (h:GI QP gp [(RV.cell 2 2 true),(Q0 3)] res 69 Ydc args):Does QP gp 25 args res:=Wys.i Wri h
def Ywv:=[Qa (Qv 1) (Q7 (Qn 0)),Qa (Qv 2) (Qd (Qo (Qp (Qq D.nilP))))]
def Wrk:MC:=.r0 Ywv
def Yww:=[Qa (Qv 3) (Qf 2 true (Qn 1)),Qa (Qv 4) MOp.mkM,Qa (Qv 5) (Q4 [(Qr Qu 0),(Qy []),(D.raw (Go.Value.map none))] [(0,(2,(Qn 3))),(2,(1,(Qn 4)))]),Qa (Qv 6) (QA (Qn 5)),Qa (Qv 2) (Qd (Qn 6))]
def Wrl:MC:=.r0 Yww
def Ywx:MC:=.seq Wrk (.seq Wrl .ret)
attribute [go_sem] Ywv Yww
theorem Wyt:KK QP 48 f48 [1] Ywx [(Q0 2)] 7:=by refine⟨func48,?_,?_,?_,?_⟩<;>kernel_rfl
theorem Wrm:Xaa QP 48=true:=by kernel_rfl
theorem Wb5 (h:GT QP gp [(Q0 2)] pre R 7 Ywx args):Tri QP gp 48 args pre R:=Wyt.t h
def Ywy:=[Qa (Qv 2) (Qd (Qo (Qp A.nil)))]
def Wrn:MC:=.r0 Ywy
def Ywz:=[Qa (Qv 3) (Qw [(Qy [])])]
def Wro:MC:=.r0 Ywz
def Yw0:=[Qa (Qv 5) (Qd (Qn 0)),Qa (Qv 6) (Qh 73 [(Qn 5)])]
def Wrp:MC:=.r0 Yw0
def Yw1:=[Qa (Qv 4) (Qd (Qn 7))]
def Wrq:MC:=.r0 Yw1
def Yw2:=[Qa (Qv 8) (Qf 1 false (Qn 3)),Qa (Qv 9) (Qd (Qn 4)),Qa (Qv 10) (Q3 1 [(Qr Qu 0)] 1 [(0,(Qn 9))]),Qa (Qv 11) (Q8 3 1 8 (Qn 8) (Qn 10)),Qa none (Ql 1 (Qn 3) (Qn 11))]
def Wrr:MC:=.r0 Yw2
def Wrs:MC:=.rf (Qn 6) [7] Wrq (.blk 1 Wrr)
def Yw3:=[Qa (Qv 12) (Qf 1 false (Qn 3)),Qa (Qv 2) (Qd (Qn 12))]
def Wrt:MC:=.r0 Yw3
def Wb6:MC:=.seq Wro (.seq (.seq Wrp (.blk 0 Wrs)) (.seq Wrt .ret))
def Ydd:MC:=.seq Wrn Wb6
attribute [go_sem] Ywy Ywz Yw0 Yw1 Yw2 Yw3
theorem Wyu:KK QP 49 f49 [] Ydd [(Q0 2)] 13:=by refine⟨func49,?_,?_,?_,?_⟩<;>kernel_rfl
theorem Wru:Xaa QP 49=true:=by kernel_rfl
theorem Wb7 (h:GT QP gp [(Q0 2)] pre R 13 Ydd args):Tri QP gp 49 args pre R:=Wyu.t h
def Yw4:=[Qa (Qv 4) (Qd (Qo (Qp A.nil)))]
def Wrv:MC:=.r0 Yw4
def Yw5:=[Qa (Qv 8) (Qd (Qn 1)),Qa (Qv 9) (Qk Qt (Qn 8)),Qa (Qv 10) (MOp.mkS 1 8 [(Qr Qu 0)] (Qn 9)),Qa (Qv 5) (Qd (Qn 10))]
def Wrw:MC:=.r0 Yw5
def Yw6:=[Qa (Qv 11) (Qd (Qn 5)),Qa (Qv 12) (Qd (Qn 1)),Qa (Qv 13) (MOp.cpy 1 (Qn 11) (Qn 12))]
def Wrx:MC:=.r0 Yw6
def Yw7:=[Qa (Qv 14) (Qd (Qn 5)),Qa (Qv 15) (Qk Qt (Qn 14)),Qa (Qv 16) (Qd (Qo (Qp (Qq (Qr Qu 0)))))]
def Wry:MC:=.r0 Yw7
def Yw8:=[Qa (Qv 17) (Qe Qt Q5 (Qn 16) (Qn 15))]
def Wrz:MC:=.r0 Yw8
def Yw9:=[Qa (Qv 18) (Qd (Qn 16)),Qa (Qv 19) (Qj 1 (Qn 14) (Qn 16)),Qa (Qv 20) (Qf 1 false (Qn 19)),Qa (Qv 6) (Qd (Qn 18)),Qa (Qv 7) (Qd (Qn 20))]
def Wr0:MC:=.r0 Yw9
def Yxa:=[Qa (Qv 21) (Qd (Qn 5)),Qa (Qv 22) (Qd (Qn 6)),Qa (Qv 23) (Qd (Qn 0)),Qa (Qv 24) (Q1 (Qn 23)),Qa (Qv 25) (Qg 2 (Qn 24)),Qa (Qv 26) (Qf 1 false (Qn 25)),Qa (Qv 27) (Qd (Qn 7)),Qa (Qv 28) (QB false (Qp (Qq (Qr Qu 0))) false [Qt] (Qn 26) (Qn 27)),Qa (Qv 29) (Qj 1 (Qn 21) (Qn 22)),Qa none (Ql 1 (Qn 29) (Qn 28))]
def Wr1:MC:=.r0 Yxa
def Yde:=[Qa (Qv 30) (Qe Qt Q6 (Qn 16) (Qo (Qp (Qq (Qr Qu 1))))),Qa (Qv 16) (Qd (Qn 30))]
def Wb8:MC:=.r0 Yde
def Wb9:MC:=.seq Wrz (.seq (.cond (Qn 17) .skip (Qz 0)) (.seq (.blk 1 (.seq Wr0 Wr1)) Wb8))
def Xf4:=[Qa (Qv 31) (Qd (Qn 5)),Qa (Qv 4) (Qd (Qn 31))]
def Wca:MC:=.r0 Xf4
def Wcb:MC:=.seq Wrx (.seq (.seq Wry (.blk 0 (.loop Wb9))) (.seq Wca .ret))
def Ydf:MC:=.seq Wrv (.seq Wrw Wcb)
attribute [go_sem] Yw4 Yw5 Yw6 Yw7 Yw8 Yw9 Yxa Yde
theorem Wyv:KK QP 52 f52 [] Ydf [(Q0 4)] 32:=by refine⟨func52,?_,?_,?_,?_⟩<;>kernel_rfl
theorem Wr2:Xaa QP 52=true:=by kernel_rfl
theorem Wcc (h:GT QP gp [(Q0 4)] pre R 32 Ydf args):Tri QP gp 52 args pre R:=Wyv.t h
def Yxb:=[Qa (Qv 1) (Q7 (Qn 0)),Qa (Qv 2) (Qd (Qo (Qp (Qq (Qs false)))))]
def Wr3:MC:=.r0 Yxb
def Yxc:=[Qa (Qv 6) (Qf 2 true (Qn 1)),Qa (Qv 7) (Qh 25 [(Qn 6)]),Qa (Qv 5) (Qd (Qn 7)),Qa (Qv 8) (Qi (Qn 5) 0),Qa (Qv 9) (Qi (Qn 5) 1),Qa (Qv 3) (Qw [(Qr Qu 0),(Qy [])]),Qa none (Ql 2 (Qn 3) (Qn 8)),Qa (Qv 4) (Qd (Qn 9))]
def Wr4:MC:=.r0 Yxc
def Yxd:=[Qa (Qv 10) (Qd (Qn 4)),Qa (Qv 11) (Qe Qt QE (Qn 10) (Qo (Qp (Qq (Qr Qu 0))))),Qa (Qv 12) (Qd (Qn 11)),Qb 12 true (Qv 13),Qa (Qv 13) (Qf 2 true (Qn 1)),Qb 12 true (Qv 14),Qa (Qv 14) (Qf 2 true (Qn 3)),Qb 12 true (Qv 15),Qa (Qv 15) (Qh 23 [(Qn 13),(Qn 14)]),Qa (Qv 16) (Qm (Qn 12) (Qn 15) (Qo (Qp (Qq (Qs false))))),Qa (Qv 2) (Qd (Qn 16))]
def Wr5:MC:=.r0 Yxd
def Yxe:MC:=.seq Wr3 (.seq Wr4 (.seq Wr5 .ret))
attribute [go_sem] Yxb Yxc Yxd
theorem Wyw:KK QP 53 f53 [1] Yxe [(Q0 2)] 17:=by refine⟨func53,?_,?_,?_,?_⟩<;>kernel_rfl
theorem Wr6:Xaa QP 53=true:=by kernel_rfl
theorem Wr7 (h:GI QP gp [(Q0 2)] res 17 Yxe args):Does QP gp 53 args res:=Wyw.i Wr6 h
def Yxf:=[Qa (Qv 1) (QA (Qn 0)),Qa (Qv 2) (Qd (Qo (Qp (Qq D.nilF))))]
def Wr8:MC:=.r0 Yxf
def Yxg:=[Qa (Qv 3) (QC (Go.Fn.func 111) [(Qn 1)]),Qa (Qv 2) (Qd (Qn 3))]
def Wr9:MC:=.r0 Yxg
def Yxh:MC:=.seq Wr8 (.seq Wr9 .ret)
attribute [go_sem] Yxf Yxg
theorem Wyx:KK QP 73 f73 [] Yxh [(Q0 2)] 4:=by refine⟨func73,?_,?_,?_,?_⟩<;>kernel_rfl
theorem Wsa:Xaa QP 73=true:=by kernel_rfl
theorem Wcd (h:GT QP gp [(Q0 2)] pre R 4 Yxh args):Tri QP gp 73 args pre R:=Wyx.t h
def Ydg:=[Qa (Qv 10) (Qf 1 false (Qn 1)),Qa (Qv 11) (Q1 (Qn 10)),Qa (Qv 12) (Qg 0 (Qn 11)),Qa (Qv 13) (Qg 0 (Qn 12)),Qa (Qv 14) (Qf 1 false (Qn 13)),Qa (Qv 15) (MOp.bslO 1 [(Qr Qu 0)] 1 [(0,(Qn 14))]),Qa (Qv 3) (Qw [(Qy [])]),Qa none (Ql 1 (Qn 3) (Qn 15))]
def Wce:MC:=.r0 Ydg
def Ydh:=[Qa (Qv 16) (QC (Go.Fn.func 112) [(Qn 3)]),Qa (Qv 4) (Qd (Qn 16))]
def Wcf:MC:=.r0 Ydh
def Ydi:=[Qa (Qv 17) (Qf 1 false (Qn 3)),Qa (Qv 18) (Qk Qt (Qn 17)),Qa (Qv 19) (Qe Qt QF (Qn 18) (Qo (Qp (Qq (Qr Qu 0)))))]
def Wcg:MC:=.r0 Ydi
def Ydj:=[Qa (Qv 20) (Qf 1 false (Qn 3)),Qa (Qv 21) (Qf 1 false (Qn 3)),Qa (Qv 22) (Qk Qt (Qn 21)),Qa (Qv 23) (Qe Qt Qx (Qn 22) (Qo (Qp (Qq (Qr Qu 1))))),Qa (Qv 24) (Qj 1 (Qn 20) (Qn 23)),Qa (Qv 25) (Qf 1 false (Qn 24)),Qa (Qv 5) (Qd (Qn 25))]
def Wch:MC:=.r0 Ydj
def Ydk:=[Qa (Qv 26) (Qf 1 false (Qn 3)),Qa (Qv 27) (Qf 1 false (Qn 3)),Qa (Qv 28) (Qk Qt (Qn 27)),Qa (Qv 29) (Qe Qt Qx (Qn 28) (Qo (Qp (Qq (Qr Qu 1))))),Qa (Qv 30) (MOp.slc 1 (Qn 26) none (Qv (Qn 29))),Qa none (Ql 1 (Qn 3) (Qn 30))]
def Wci:MC:=.r0 Ydk
def Xyc:=[Qa (Qv 32) (Qf 1 false (Qn 1)),Qa (Qv 33) (Q1 (Qn 32)),Qa (Qv 34) (Qg 2 (Qn 33)),Qa (Qv 35) (Qf 1 false (Qn 34)),Qa (Qv 36) (Qd (Qn 5)),Qa (Qv 37) (QB true (Qp (Qq (Qr Qu 0))) false [Qt] (Qn 35) (Qn 36)),Qa (Qv 31) (Qd (Qn 37)),Qa (Qv 38) (Qi (Qn 31) 0),Qa (Qv 39) (Qi (Qn 31) 1),Qa (Qv 6) (Qd (Qn 38)),Qa (Qv 7) (Qd (Qn 39))]
def Ynq:MC:=.r0 Xyc
def Xyd:=[Qa (Qv 40) (Qd (Qn 7))]
def Ynr:MC:=.r0 Xyd
def Xye:=[Qa (Qv 41) (Qf 1 false (Qn 1)),Qa (Qv 42) (Q1 (Qn 41)),Qa (Qv 43) (Qg 2 (Qn 42)),Qa (Qv 44) (Qf 1 false (Qn 43)),Qa (Qv 45) (Qd (Qn 5)),Qa (Qv 46) (Qf 1 false (Qn 1)),Qa (Qv 47) (Q1 (Qn 46)),Qa (Qv 48) (Qg 2 (Qn 47)),Qa (Qv 49) (Qf 1 false (Qn 48)),Qa (Qv 50) (Qk Leaf.b (Qn 49)),Qa none (MOp.mupd false [Qt] (Qn 44) (Qn 45) (Qn 50))]
def Yns:MC:=.reg true Xye
def Xyf:=[Qa (Qv 51) (Qd (Qn 0)),Qa (Qv 52) (Qd (Qn 5)),Qa (Qv 53) (Q9 (Qn 51) [(Qn 52)]),Qa (Qv 54) (MOp.not (Qn 53))]
def Ynt:MC:=.r0 Xyf
def Xyg:=[Qa (Qv 56) (Qf 1 false (Qn 1)),Qa (Qv 57) (Q1 (Qn 56)),Qa (Qv 58) (Qg 0 (Qn 57)),Qa (Qv 59) (Qf 2 true (Qn 58)),Qa (Qv 60) (Qd (Qn 5)),Qa (Qv 61) (Qh 51 [(Qn 59),(Qn 60)]),Qa (Qv 55) (Qd (Qn 61)),Qa (Qv 62) (Qi (Qn 55) 0),Qa (Qv 63) (Qi (Qn 55) 1),Qa (Qv 8) (Qd (Qn 62)),Qa (Qv 9) (Qd (Qn 63))]
def Ynu:MC:=.r0 Xyg
def Xyh:=[Qa (Qv 64) (Qd (Qn 4)),Qa (Qv 65) (Qd (Qn 8)),Qa (Qv 66) (Q9 (Qn 64) [(Qn 65)])]
def Ynv:MC:=.r0 Xyh
def Ynw:MC:=.seq Yns (.seq (.seq Ynt (.cond (Qn 54) (Qz 0) .skip)) (.seq Ynu Ynv))
def Ynx:MC:=.seq Wci (.seq (.seq Ynq (.seq Ynr (.cond (Qn 40) (Qz 1) .skip))) Ynw)
def Yny:MC:=.seq Wcf (.seq .skip (.blk 0 (.loop (.seq (.seq Wcg (.cond (Qn 19) .skip (Qz 0))) (.blk 1 (.seq Wch Ynx))))))
def Xyi:MC:=.scope (.seq Wce Yny)
attribute [go_sem] Ydg Ydh Ydi Ydj Ydk Xyc Xyd Xye Xyf Xyg Xyh
theorem Wsb:KK QP 111 f111 [15] Xyi [] 67:=by refine⟨func111,?_,?_,?_,?_⟩<;>kernel_rfl
theorem Wcj:Xaa QP 111=true:=by kernel_rfl
theorem Ynz (h:GT QP gp [] pre R 67 Xyi args):Tri QP gp 111 args pre R:=Wsb.t h
def Ydl:=[Qa (Qv 4) (Qd (Qn 0)),Qa (Qv 5) (Qk Qt (Qn 4)),Qa (Qv 6) (Qe Qt Qx (Qn 5) (Qo (Qp (Qq (Qr Qu 1))))),Qa (Qv 3) (Qd (Qn 6))]
def Wck:MC:=.r0 Ydl
def Ydm:=[Qa (Qv 7) (Qd (Qn 3)),Qa (Qv 8) (Qe Qt QG (Qn 7) (Qo (Qp (Qq (Qr Qu 0)))))]
def Wcl:MC:=.r0 Ydm
def Ydn:=[Qa (Qv 11) (Qf 1 false (Qn 1)),Qa (Qv 12) (Qd (Qn 0)),Qa (Qv 13) (Qd (Qn 3)),Qa (Qv 14) (Qj 1 (Qn 12) (Qn 13)),Qa (Qv 15) (Qf 1 false (Qn 14)),Qa (Qv 16) (Q3 1 [(Qr Qu 0)] 1 [(0,(Qn 15))]),Qa (Qv 17) (Q8 3 1 8 (Qn 11) (Qn 16)),Qa none (Ql 1 (Qn 1) (Qn 17))]
def Wcm:MC:=.reg true Ydn
def Ydo:=[Qa (Qv 9) (Qd (Qn 3)),Qa (Qv 10) (Qe Qt Qx (Qn 9) (Qo (Qp (Qq (Qr Qu 1))))),Qa (Qv 3) (Qd (Qn 10))]
def Wcn:MC:=.r0 Ydo
def Xyj:MC:=.seq Wck (.blk 0 (.loop (.seq (.seq Wcl (.cond (Qn 8) .skip (Qz 0))) (.seq (.blk 1 Wcm) Wcn))))
attribute [go_sem] Ydl Ydm Ydn Ydo
theorem Wsc:KK QP 112 f112 [] Xyj [] 18:=by refine⟨func112,?_,?_,?_,?_⟩<;>kernel_rfl
theorem Wco:Xaa QP 112=true:=by kernel_rfl
theorem Yn0 (h:GT QP gp [] pre R 18 Xyj args):Tri QP gp 112 args pre R:=Wsc.t h
end Go.Fw.L07
