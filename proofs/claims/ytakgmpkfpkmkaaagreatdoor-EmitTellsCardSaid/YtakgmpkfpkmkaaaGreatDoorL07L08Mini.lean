/- Small codes. -/
import Derived.Test.YtakgmpkfpkmkaaaGreatDoorFd
import Derived.Test.YtakgmpkfpkmkaaaGreatDoorProg
set_option linter.all false
namespace Go.Fw.L07
open Go Go.Fw
open Go.Proofs.Tryz renaming prog->QP
open Go.Proofs.Tryz (f111 f112 f126 f154 f25 f48 f49 f52 f53 f59 f73 f87 f92 func111 func112 func126 func154 func25 func48 func49 func52 func53 func59 func73 func87 func92)
open Go.Fw.MO renaming op->Qa,chk->Qb,opx->Qc
open Go.Fw.MOp renaming mv->Qd,bin->Qe,load->Qf,fad->Qg,call->Qh,ext->Qi,iad->Qj,len->Qk,store->Ql,pick->Qm,alloc->Qw,bslice->Q3,ibox->Q4,build->Q5,app->Q7,nck->Q8,callv->QE,box->QF,lkp->QG,mkF->QH
open Go.Fw.Opd renaming t->Qn,c->Qo
open Go.Fw.V renaming one->Qp
open Go.Fw.A renaming d->Qq
open Go.Fw.D renaming int->Qr,bool->Qs,sl->Qx,str->QB
open Go.Fw.Leaf renaming i->Qt
open Go.IntKind renaming i64->Qu
open Option renaming some->Qv
open _root_.ByteArray renaming mk->Qy
open Go.Fw.RV renaming t->Qz,cell->QC
open Go.BinOp renaming lss->Q0,add->Q1,sub->Q6,neq->Q9,eql->QA,geq->QD,gtr->QI
open Go.Fw.MC renaming exit->Q2
variable {gp:Heap} {args:List V} {res:V} {pre:List Ch} {R:V->List Ch->Prop}
def Y56:=[Qa (Qv 1) (Q4 (Qn 0)),Qa (Qv 2) (Qw [(Qr Qu 0),(Qx [])]),Qa (Qv 3) (Qd (Qo (Qp (Qq (Qr Qu 0)))))]
def W95:MC:=.r0 Y56
def Y57:=[Qa (Qv 14) (Qf 2 true (Qn 1)),Qa (Qv 15) (Qh 47 [(Qn 14)]),Qa (Qv 13) (Qd (Qn 15)),Qa (Qv 16) (Qi (Qn 13) 0),Qa (Qv 17) (Qi (Qn 13) 1),Qa (Qv 4) (Qd (Qn 16)),Qa (Qv 5) (Qd (Qn 17))]
def W96:MC:=.r0 Y57
def Y58:=[Qa (Qv 18) (Qd (Qn 5)),Qa (Qv 19) (Qe Qt Q9 (Qn 18) (Qo (Qp (Qq (Qr Qu 0)))))]
def W97:MC:=.r0 Y58
def Y59:=[Qa (Qv 20) (Q5 [(Qr Qu 0),(Qx [])] []),Qa (Qv 21) (Qd (Qn 5)),Qa none (Ql 2 (Qn 2) (Qn 20)),Qa (Qv 3) (Qd (Qn 21))]
def W98:MC:=.r0 Y59
def Xgf:=[Qa (Qv 22) (Qf 2 true (Qn 1)),Qa (Qv 23) (Qh 48 [(Qn 22)]),Qa (Qv 6) (Qd (Qn 23))]
def Wrg:MC:=.r0 Xgf
def Yip:=[Qa (Qv 7) (Qw [(Qr Qu 0),(Qx [])])]
def Wrh:MC:=.r0 Yip
def Yiq:=[Qa (Qv 24) (Qd (Qn 6)),Qa (Qv 25) (Qh 49 [(Qn 24)]),Qa (Qv 26) (Qk Qt (Qn 25)),Qa (Qv 27) (Qd (Qo (Qp (Qq (Qr Qu 0)))))]
def Wri:MC:=.r0 Yiq
def Yir:=[Qa (Qv 28) (Qe Qt Q0 (Qn 27) (Qn 26))]
def Wrj:MC:=.r0 Yir
def Yis:=[Qa (Qv 29) (Qj 1 (Qn 25) (Qn 27)),Qa (Qv 30) (Qf 1 false (Qn 29)),Qa (Qv 9) (Qd (Qn 30))]
def Wrk:MC:=.r0 Yis
def Yit:=[Qa (Qv 31) (Qg 1 (Qn 1)),Qa (Qv 32) (Qf 1 false (Qn 31)),Qa (Qv 33) (Qd (Qn 9)),Qa (Qv 34) (Qj 6 (Qn 32) (Qn 33)),Qa (Qv 35) (Qg 0 (Qn 34)),Qa (Qv 36) (Qf 1 false (Qn 35)),Qa (Qv 37) (Qg 1 (Qn 1)),Qa (Qv 38) (Qf 1 false (Qn 37)),Qa (Qv 39) (Qd (Qn 9)),Qa (Qv 40) (Qj 6 (Qn 38) (Qn 39)),Qa (Qv 41) (Qg 1 (Qn 40)),Qa (Qv 42) (Qf 3 true (Qn 41)),Qa (Qv 43) (Q5 [(Qr Qu 0),(Qr Qu 0),(Qr Qu 0),(QB (Qy #[])),(Qx []),(Qx [])] [(0,(1,(Qn 36))),(1,(3,(Qn 42)))]),Qa (Qv 10) (Qw [(Qr Qu 0),(Qr Qu 0),(Qr Qu 0),(QB (Qy #[])),(Qx []),(Qx [])]),Qa none (Ql 6 (Qn 10) (Qn 43))]
def Wrl:MC:=.reg true Yit
def Yiu:=[Qa (Qv 45) (Qf 2 true (Qn 1)),Qa (Qv 46) (Qd (Qn 9)),Qa (Qv 47) (Qh 50 [(Qn 45),(Qn 46)]),Qa (Qv 44) (Qd (Qn 47)),Qa (Qv 48) (Qi (Qn 44) 0),Qa (Qv 49) (Qi (Qn 44) 1),Qa (Qv 50) (Qg 4 (Qn 10)),Qa none (Ql 1 (Qn 50) (Qn 48))]
def Wrm:MC:=.r0 Yiu
def Yiv:=[Qa (Qv 52) (Qf 2 true (Qn 1)),Qa (Qv 53) (Qd (Qn 9)),Qa (Qv 54) (Qh 51 [(Qn 52),(Qn 53)]),Qa (Qv 51) (Qd (Qn 54)),Qa (Qv 55) (Qi (Qn 51) 0),Qa (Qv 56) (Qi (Qn 51) 1),Qa (Qv 11) (Qd (Qn 55)),Qa (Qv 12) (Qd (Qn 56))]
def Wrn:MC:=.r0 Yiv
def Yiw:=[Qa (Qv 57) (Qd (Qn 6)),Qa (Qv 58) (Qd (Qn 11)),Qa (Qv 59) (Qh 52 [(Qn 57),(Qn 58)]),Qa (Qv 60) (Qg 5 (Qn 10)),Qa none (Ql 1 (Qn 60) (Qn 59))]
def Wro:MC:=.r0 Yiw
def Yix:=[Qa (Qv 61) (Qg 1 (Qn 7)),Qa (Qv 62) (Qf 1 false (Qn 61)),Qa (Qv 63) (Qf 6 true (Qn 10)),Qa (Qv 64) (Q3 6 [(Qr Qu 0),(Qr Qu 0),(Qr Qu 0),(QB (Qy #[])),(Qx []),(Qx [])] 1 [(0,(Qn 63))]),Qa (Qv 65) (Q7 43 6 88 (Qn 62) (Qn 64)),Qa (Qv 66) (Qg 1 (Qn 7)),Qa none (Ql 1 (Qn 66) (Qn 65))]
def Wrp:MC:=.r0 Yix
def Wrq:MC:=.seq Wrm (.seq Wrn (.seq Wro Wrp))
def Yiy:=[Qa (Qv 67) (Qe Qt Q1 (Qn 27) (Qo (Qp (Qq (Qr Qu 1))))),Qa (Qv 27) (Qd (Qn 67))]
def Wrr:MC:=.r0 Yiy
def Wrs:MC:=.seq (.blk 1 (.seq Wrk (.seq Wrl Wrq))) Wrr
def Yiz:=[Qa (Qv 68) (Qf 2 true (Qn 7)),Qa none (Ql 2 (Qn 2) (Qn 68)),Qa (Qv 3) (Qd (Qo (Qp (Qq (Qr Qu 0)))))]
def Wrt:MC:=.r0 Yiz
def Wru:MC:=.seq (.seq Wri (.blk 0 (.loop (.seq Wrj (.seq (.cond (Qn 28) .skip (Q2 0)) Wrs))))) (.seq Wrt .ret)
def Wrv:MC:=.seq (.seq W96 (.seq W97 (.cond (Qn 19) (.seq W98 .ret) .skip))) (.seq Wrg (.seq Wrh Wru))
def Yi0:MC:=.seq W95 Wrv
attribute [go_sem] Y56 Y57 Y58 Y59 Yip Yiq Yir Yis Yit Yiu Yiv Yiw Yix Yiy Yiz
theorem Jhg:KK QP 25 f25 [1] Yi0 [(QC 2 2 true),(Qz 3)] 69:=by refine⟨func25,?_,?_,?_,?_⟩<;>kernel_rfl
theorem W99:Xaa QP 25=true:=by kernel_rfl
theorem Jaa (h:GI QP gp [(QC 2 2 true),(Qz 3)] res 69 Yi0 args):Does QP gp 25 args res:=Jhg.i W99 h
def Y6a:=[Qa (Qv 1) (Q4 (Qn 0)),Qa (Qv 2) (Qd (Qo (Qp (Qq D.nilP))))]
def Jab:MC:=.r0 Y6a
def Y6b:=[Qa (Qv 3) (Qf 2 true (Qn 1)),Qa (Qv 4) MOp.mkM,Qa (Qv 5) (Q5 [(Qr Qu 0),(Qx []),(D.raw (Go.Value.map none))] [(0,(2,(Qn 3))),(2,(1,(Qn 4)))]),Qa (Qv 6) (QF (Qn 5)),Qa (Qv 2) (Qd (Qn 6))]
def Jac:MC:=.r0 Y6b
def Y6c:MC:=.seq Jab (.seq Jac .ret)
attribute [go_sem] Y6a Y6b
theorem Jhh:KK QP 48 f48 [1] Y6c [(Qz 2)] 7:=by refine⟨func48,?_,?_,?_,?_⟩<;>kernel_rfl
theorem Jad:Xaa QP 48=true:=by kernel_rfl
theorem Wrw (h:GT QP gp [(Qz 2)] pre R 7 Y6c args):Tri QP gp 48 args pre R:=Jhh.t h
def Y6d:=[Qa (Qv 2) (Qd (Qo (Qp A.nil)))]
def Jae:MC:=.r0 Y6d
def Y6e:=[Qa (Qv 3) (Qw [(Qx [])])]
def Jaf:MC:=.r0 Y6e
def Y6f:=[Qa (Qv 5) (Qd (Qn 0)),Qa (Qv 6) (Qh 73 [(Qn 5)])]
def Jag:MC:=.r0 Y6f
def Y6g:=[Qa (Qv 4) (Qd (Qn 7))]
def Jah:MC:=.r0 Y6g
def Y6h:=[Qa (Qv 8) (Qf 1 false (Qn 3)),Qa (Qv 9) (Qd (Qn 4)),Qa (Qv 10) (Q3 1 [(Qr Qu 0)] 1 [(0,(Qn 9))]),Qa (Qv 11) (Q7 3 1 8 (Qn 8) (Qn 10)),Qa none (Ql 1 (Qn 3) (Qn 11))]
def Jai:MC:=.r0 Y6h
def Jaj:MC:=.rf (Qn 6) [7] Jah (.blk 1 Jai)
def Y6i:=[Qa (Qv 12) (Qf 1 false (Qn 3)),Qa (Qv 2) (Qd (Qn 12))]
def Jak:MC:=.r0 Y6i
def Wrx:MC:=.seq Jaf (.seq (.seq Jag (.blk 0 Jaj)) (.seq Jak .ret))
def Yi1:MC:=.seq Jae Wrx
attribute [go_sem] Y6d Y6e Y6f Y6g Y6h Y6i
theorem Jhi:KK QP 49 f49 [] Yi1 [(Qz 2)] 13:=by refine⟨func49,?_,?_,?_,?_⟩<;>kernel_rfl
theorem Jal:Xaa QP 49=true:=by kernel_rfl
theorem Wry (h:GT QP gp [(Qz 2)] pre R 13 Yi1 args):Tri QP gp 49 args pre R:=Jhi.t h
def Y6j:=[Qa (Qv 4) (Qd (Qo (Qp A.nil)))]
def Jam:MC:=.r0 Y6j
def Y6k:=[Qa (Qv 8) (Qd (Qn 1)),Qa (Qv 9) (Qk Qt (Qn 8)),Qa (Qv 10) (MOp.mkS 1 8 [(Qr Qu 0)] (Qn 9)),Qa (Qv 5) (Qd (Qn 10))]
def Jan:MC:=.r0 Y6k
def Y6l:=[Qa (Qv 11) (Qd (Qn 5)),Qa (Qv 12) (Qd (Qn 1)),Qa (Qv 13) (MOp.cpy 1 (Qn 11) (Qn 12))]
def Jao:MC:=.r0 Y6l
def Y6m:=[Qa (Qv 14) (Qd (Qn 5)),Qa (Qv 15) (Qk Qt (Qn 14)),Qa (Qv 16) (Qd (Qo (Qp (Qq (Qr Qu 0)))))]
def Jap:MC:=.r0 Y6m
def Y6n:=[Qa (Qv 17) (Qe Qt Q0 (Qn 16) (Qn 15))]
def Jaq:MC:=.r0 Y6n
def Y6o:=[Qa (Qv 18) (Qd (Qn 16)),Qa (Qv 19) (Qj 1 (Qn 14) (Qn 16)),Qa (Qv 20) (Qf 1 false (Qn 19)),Qa (Qv 6) (Qd (Qn 18)),Qa (Qv 7) (Qd (Qn 20))]
def Jar:MC:=.r0 Y6o
def Y6p:=[Qa (Qv 21) (Qd (Qn 5)),Qa (Qv 22) (Qd (Qn 6)),Qa (Qv 23) (Qd (Qn 0)),Qa (Qv 24) (Q8 (Qn 23)),Qa (Qv 25) (Qg 2 (Qn 24)),Qa (Qv 26) (Qf 1 false (Qn 25)),Qa (Qv 27) (Qd (Qn 7)),Qa (Qv 28) (QG false (Qp (Qq (Qr Qu 0))) false [Qt] (Qn 26) (Qn 27)),Qa (Qv 29) (Qj 1 (Qn 21) (Qn 22)),Qa none (Ql 1 (Qn 29) (Qn 28))]
def Jas:MC:=.r0 Y6p
def Yi2:=[Qa (Qv 30) (Qe Qt Q1 (Qn 16) (Qo (Qp (Qq (Qr Qu 1))))),Qa (Qv 16) (Qd (Qn 30))]
def Wrz:MC:=.r0 Yi2
def Wr0:MC:=.seq Jaq (.seq (.cond (Qn 17) .skip (Q2 0)) (.seq (.blk 1 (.seq Jar Jas)) Wrz))
def Xl2:=[Qa (Qv 31) (Qd (Qn 5)),Qa (Qv 4) (Qd (Qn 31))]
def Wr1:MC:=.r0 Xl2
def Wr2:MC:=.seq Jao (.seq (.seq Jap (.blk 0 (.loop Wr0))) (.seq Wr1 .ret))
def Yi3:MC:=.seq Jam (.seq Jan Wr2)
attribute [go_sem] Y6j Y6k Y6l Y6m Y6n Y6o Y6p Yi2
theorem Jhj:KK QP 52 f52 [] Yi3 [(Qz 4)] 32:=by refine⟨func52,?_,?_,?_,?_⟩<;>kernel_rfl
theorem Jat:Xaa QP 52=true:=by kernel_rfl
theorem Wr3 (h:GT QP gp [(Qz 4)] pre R 32 Yi3 args):Tri QP gp 52 args pre R:=Jhj.t h
def Y6q:=[Qa (Qv 1) (Q4 (Qn 0)),Qa (Qv 2) (Qd (Qo (Qp (Qq (Qs false)))))]
def Jau:MC:=.r0 Y6q
def Y6r:=[Qa (Qv 6) (Qf 2 true (Qn 1)),Qa (Qv 7) (Qh 25 [(Qn 6)]),Qa (Qv 5) (Qd (Qn 7)),Qa (Qv 8) (Qi (Qn 5) 0),Qa (Qv 9) (Qi (Qn 5) 1),Qa (Qv 3) (Qw [(Qr Qu 0),(Qx [])]),Qa none (Ql 2 (Qn 3) (Qn 8)),Qa (Qv 4) (Qd (Qn 9))]
def Jav:MC:=.r0 Y6r
def Y6s:=[Qa (Qv 10) (Qd (Qn 4)),Qa (Qv 11) (Qe Qt QA (Qn 10) (Qo (Qp (Qq (Qr Qu 0))))),Qa (Qv 12) (Qd (Qn 11)),Qb 12 true (Qv 13),Qa (Qv 13) (Qf 2 true (Qn 1)),Qb 12 true (Qv 14),Qa (Qv 14) (Qf 2 true (Qn 3)),Qb 12 true (Qv 15),Qa (Qv 15) (Qh 23 [(Qn 13),(Qn 14)]),Qa (Qv 16) (Qm (Qn 12) (Qn 15) (Qo (Qp (Qq (Qs false))))),Qa (Qv 2) (Qd (Qn 16))]
def Jaw:MC:=.r0 Y6s
def Y6t:MC:=.seq Jau (.seq Jav (.seq Jaw .ret))
attribute [go_sem] Y6q Y6r Y6s
theorem Jhk:KK QP 53 f53 [1] Y6t [(Qz 2)] 17:=by refine⟨func53,?_,?_,?_,?_⟩<;>kernel_rfl
theorem Jax:Xaa QP 53=true:=by kernel_rfl
theorem Jay (h:GI QP gp [(Qz 2)] res 17 Y6t args):Does QP gp 53 args res:=Jhk.i Jax h
def Y6u:=[Qa (Qv 1) (Q4 (Qn 0)),Qa (Qv 2) (Qd (Qo (Qp (Qq (Qs false)))))]
def Jaz:MC:=.r0 Y6u
def Y6v:=[Qa (Qv 6) (Qf 2 true (Qn 1)),Qa (Qv 7) (Qh 87 [(Qn 6)]),Qa (Qv 5) (Qd (Qn 7)),Qa (Qv 8) (Qi (Qn 5) 0),Qa (Qv 9) (Qi (Qn 5) 1),Qa (Qv 3) (Qw [(Qr Qu 0),(Qx [])]),Qa none (Ql 2 (Qn 3) (Qn 8)),Qa (Qv 4) (Qd (Qn 9))]
def Ja0:MC:=.r0 Y6v
def Y6w:=[Qa (Qv 10) (Qd (Qn 4)),Qa (Qv 11) (Qe Qt QA (Qn 10) (Qo (Qp (Qq (Qr Qu 0))))),Qa (Qv 12) (Qd (Qn 11)),Qb 12 true (Qv 13),Qa (Qv 13) (Qf 2 true (Qn 1)),Qb 12 true (Qv 14),Qa (Qv 14) (Qf 2 true (Qn 3)),Qb 12 true (Qv 15),Qa (Qv 15) (Qh 88 [(Qn 13),(Qn 14)]),Qa (Qv 16) (Qm (Qn 12) (Qn 15) (Qo (Qp (Qq (Qs false))))),Qa (Qv 2) (Qd (Qn 16))]
def Ja1:MC:=.r0 Y6w
def Y6x:MC:=.seq Jaz (.seq Ja0 (.seq Ja1 .ret))
attribute [go_sem] Y6u Y6v Y6w
theorem Jhl:KK QP 59 f59 [1] Y6x [(Qz 2)] 17:=by refine⟨func59,?_,?_,?_,?_⟩<;>kernel_rfl
theorem Ja2:Xaa QP 59=true:=by kernel_rfl
theorem Ja3 (h:GI QP gp [(Qz 2)] res 17 Y6x args):Does QP gp 59 args res:=Jhl.i Ja2 h
def Y6y:=[Qa (Qv 1) (QF (Qn 0)),Qa (Qv 2) (Qd (Qo (Qp (Qq D.nilF))))]
def Ja4:MC:=.r0 Y6y
def Y6z:=[Qa (Qv 3) (QH (Go.Fn.func 111) [(Qn 1)]),Qa (Qv 2) (Qd (Qn 3))]
def Ja5:MC:=.r0 Y6z
def Y60:MC:=.seq Ja4 (.seq Ja5 .ret)
attribute [go_sem] Y6y Y6z
theorem Jhm:KK QP 73 f73 [] Y60 [(Qz 2)] 4:=by refine⟨func73,?_,?_,?_,?_⟩<;>kernel_rfl
theorem Ja6:Xaa QP 73=true:=by kernel_rfl
theorem Wr4 (h:GT QP gp [(Qz 2)] pre R 4 Y60 args):Tri QP gp 73 args pre R:=Jhm.t h
def Y61:=[Qa (Qv 1) (Q4 (Qn 0)),Qa (Qv 2) (Qw [(Qr Qu 0),(Qx [])]),Qa (Qv 3) (Qd (Qo (Qp (Qq (Qr Qu 0)))))]
def Ja7:MC:=.r0 Y61
def Y62:=[Qa (Qv 14) (Qf 2 true (Qn 1)),Qa (Qv 15) (Qh 126 [(Qn 14)]),Qa (Qv 13) (Qd (Qn 15)),Qa (Qv 16) (Qi (Qn 13) 0),Qa (Qv 17) (Qi (Qn 13) 1),Qa (Qv 4) (Qd (Qn 16)),Qa (Qv 5) (Qd (Qn 17))]
def Ja8:MC:=.r0 Y62
def Y63:=[Qa (Qv 18) (Qd (Qn 5)),Qa (Qv 19) (Qe Qt Q9 (Qn 18) (Qo (Qp (Qq (Qr Qu 0)))))]
def Ja9:MC:=.r0 Y63
def Y64:=[Qa (Qv 20) (Q5 [(Qr Qu 0),(Qx [])] []),Qa (Qv 21) (Qd (Qn 5)),Qa none (Ql 2 (Qn 2) (Qn 20)),Qa (Qv 3) (Qd (Qn 21))]
def Jba:MC:=.r0 Y64
def Y65:=[Qa (Qv 22) (Q5 [(Qr Qu 0),(Qx [])] []),Qa (Qv 6) (Qw [(Qr Qu 0),(Qx [])]),Qa none (Ql 2 (Qn 6) (Qn 22))]
def Jbb:MC:=.r0 Y65
def Yi4:=[Qa (Qv 7) (Qd (Qo (Qp (Qq (Qr Qu 0)))))]
def Wr5:MC:=.r0 Yi4
def Yi5:=[Qa (Qv 23) (Qd (Qn 7)),Qa (Qv 24) (Qd (Qn 4)),Qa (Qv 25) (Qk Qt (Qn 24)),Qa (Qv 26) (Qe Qt Q0 (Qn 23) (Qn 25))]
def Wr6:MC:=.r0 Yi5
def Yi6:=[Qa (Qv 29) (Qg 1 (Qn 1)),Qa (Qv 30) (Qf 1 false (Qn 29)),Qa (Qv 31) (Qd (Qn 4)),Qa (Qv 32) (Qd (Qn 7)),Qa (Qv 33) (Qj 1 (Qn 31) (Qn 32)),Qa (Qv 34) (Qf 1 false (Qn 33)),Qa (Qv 35) (Qj 6 (Qn 30) (Qn 34)),Qa (Qv 36) (Qf 6 true (Qn 35)),Qa (Qv 8) (Qw [(Qr Qu 0),(Qr Qu 0),(Qr Qu 0),(QB (Qy #[])),(Qx []),(Qx [])]),Qa none (Ql 6 (Qn 8) (Qn 36))]
def Wr7:MC:=.reg true Yi6
def Yi7:=[Qa (Qv 37) (Qg 0 (Qn 8)),Qa (Qv 38) (Qf 1 false (Qn 37)),Qa (Qv 39) (Qg 1 (Qn 8)),Qa (Qv 40) (Qf 3 true (Qn 39)),Qa (Qv 41) (Q5 [(Qr Qu 0),(Qr Qu 0),(Qr Qu 0),(QB (Qy #[])),(Qx []),(Qx [])] [(0,(1,(Qn 38))),(1,(3,(Qn 40)))]),Qa (Qv 9) (Qw [(Qr Qu 0),(Qr Qu 0),(Qr Qu 0),(QB (Qy #[])),(Qx []),(Qx [])]),Qa none (Ql 6 (Qn 9) (Qn 41))]
def Wr8:MC:=.r0 Yi7
def Yi8:=[Qa (Qv 43) (Qf 2 true (Qn 1)),Qa (Qv 44) (Qd (Qn 4)),Qa (Qv 45) (Qd (Qn 7)),Qa (Qv 46) (Qj 1 (Qn 44) (Qn 45)),Qa (Qv 47) (Qf 1 false (Qn 46)),Qc (Qv 48) (Qh 127 [(Qn 43),(Qn 47)]),Qa (Qv 42) (Qd (Qn 48)),Qa (Qv 49) (Qi (Qn 42) 0),Qa (Qv 50) (Qi (Qn 42) 1),Qa (Qv 51) (Qg 4 (Qn 9)),Qa none (Ql 1 (Qn 51) (Qn 49))]
def Wr9:MC:=.reg true Yi8
def Yi9:=[Qa (Qv 53) (Qf 2 true (Qn 1)),Qa (Qv 54) (Qd (Qn 4)),Qa (Qv 55) (Qd (Qn 7)),Qa (Qv 56) (Qj 1 (Qn 54) (Qn 55)),Qa (Qv 57) (Qf 1 false (Qn 56)),Qc (Qv 58) (Qh 128 [(Qn 53),(Qn 57)]),Qa (Qv 52) (Qd (Qn 58)),Qa (Qv 59) (Qi (Qn 52) 0),Qa (Qv 60) (Qi (Qn 52) 1),Qa (Qv 10) (Qd (Qn 59)),Qa (Qv 11) (Qd (Qn 60))]
def Wsa:MC:=.reg true Yi9
def Yja:=[Qa (Qv 12) (Qd (Qo (Qp (Qq (Qr Qu 0)))))]
def Wsb:MC:=.r0 Yja
def Yjb:=[Qa (Qv 61) (Qd (Qn 12)),Qa (Qv 62) (Qd (Qn 10)),Qa (Qv 63) (Qk Qt (Qn 62)),Qa (Qv 64) (Qe Qt Q0 (Qn 61) (Qn 63))]
def Wsc:MC:=.r0 Yjb
def Yjc:=[Qa (Qv 67) (Qg 5 (Qn 9)),Qa (Qv 68) (Qf 1 false (Qn 67)),Qa (Qv 69) (Qd (Qn 4)),Qa (Qv 70) (Qd (Qn 10)),Qa (Qv 71) (Qd (Qn 12)),Qa (Qv 72) (Qj 1 (Qn 70) (Qn 71)),Qa (Qv 73) (Qf 1 false (Qn 72)),Qa (Qv 74) (Qh 92 [(Qn 69),(Qn 73)]),Qa (Qv 75) (Q3 1 [(Qr Qu 0)] 1 [(0,(Qn 74))]),Qa (Qv 76) (Q7 3 1 8 (Qn 68) (Qn 75)),Qa (Qv 77) (Qg 5 (Qn 9)),Qa none (Ql 1 (Qn 77) (Qn 76))]
def Wsd:MC:=.reg true Yjc
def Yjd:=[Qa (Qv 65) (Qd (Qn 12)),Qa (Qv 66) (Qe Qt Q1 (Qn 65) (Qo (Qp (Qq (Qr Qu 1))))),Qa (Qv 12) (Qd (Qn 66))]
def Wse:MC:=.r0 Yjd
def Wsf:MC:=.seq Wsb (.blk 2 (.loop (.seq (.seq Wsc (.cond (Qn 64) .skip (Q2 2))) (.seq (.blk 3 Wsd) Wse))))
def Xgg:=[Qa (Qv 78) (Qg 1 (Qn 6)),Qa (Qv 79) (Qf 1 false (Qn 78)),Qa (Qv 80) (Qf 6 true (Qn 9)),Qa (Qv 81) (Q3 6 [(Qr Qu 0),(Qr Qu 0),(Qr Qu 0),(QB (Qy #[])),(Qx []),(Qx [])] 1 [(0,(Qn 80))]),Qa (Qv 82) (Q7 43 6 88 (Qn 79) (Qn 81)),Qa (Qv 83) (Qg 1 (Qn 6)),Qa none (Ql 1 (Qn 83) (Qn 82))]
def Wsg:MC:=.r0 Xgg
def Wsh:MC:=.seq Wr9 (.seq Wsa (.seq Wsf Wsg))
def Yje:=[Qa (Qv 27) (Qd (Qn 7)),Qa (Qv 28) (Qe Qt Q1 (Qn 27) (Qo (Qp (Qq (Qr Qu 1))))),Qa (Qv 7) (Qd (Qn 28))]
def Wsi:MC:=.r0 Yje
def Wsj:MC:=.seq (.blk 1 (.seq Wr7 (.seq Wr8 Wsh))) Wsi
def Yjf:=[Qa (Qv 84) (Qf 2 true (Qn 6)),Qa none (Ql 2 (Qn 2) (Qn 84)),Qa (Qv 3) (Qd (Qo (Qp (Qq (Qr Qu 0)))))]
def Wsk:MC:=.r0 Yjf
def Wsl:MC:=.seq (.seq Wr5 (.blk 0 (.loop (.seq (.seq Wr6 (.cond (Qn 26) .skip (Q2 0))) Wsj)))) (.seq Wsk .ret)
def Wsm:MC:=.seq (.seq Ja9 (.cond (Qn 19) (.seq Jba .ret) .skip)) (.seq Jbb Wsl)
def Yjg:MC:=.seq Ja7 (.seq Ja8 Wsm)
attribute [go_sem] Y61 Y62 Y63 Y64 Y65 Yi4 Yi5 Yi6 Yi7 Yi8 Yi9 Yja Yjb Yjc Yjd Yje Yjf
theorem Jhn:KK QP 87 f87 [1] Yjg [(QC 2 2 true),(Qz 3)] 85:=by refine⟨func87,?_,?_,?_,?_⟩<;>kernel_rfl
theorem Jbc:Xaa QP 87=true:=by kernel_rfl
theorem Jbd (h:GI QP gp [(QC 2 2 true),(Qz 3)] res 85 Yjg args):Does QP gp 87 args res:=Jhn.i Jbc h
def Y66:=[Qa (Qv 4) (Qd (Qo (Qp (Qq (Qr Qu 0)))))]
def Jbe:MC:=.r0 Y66
def Y67:=[Qa (Qv 5) (Qd (Qo (Qp (Qq (Qr Qu 0)))))]
def Jbf:MC:=.r0 Y67
def Y68:=[Qa (Qv 6) (Qd (Qn 5)),Qa (Qv 7) (Qd (Qn 0)),Qa (Qv 8) (Qk Qt (Qn 7)),Qa (Qv 9) (Qe Qt Q0 (Qn 6) (Qn 8))]
def Jbg:MC:=.r0 Y68
def Y69:=[Qa (Qv 12) (Qd (Qn 0)),Qa (Qv 13) (Qd (Qn 5)),Qa (Qv 14) (Qj 1 (Qn 12) (Qn 13)),Qa (Qv 15) (Qf 1 false (Qn 14)),Qa (Qv 16) (Qd (Qn 1)),Qa (Qv 17) (Qe Qt QA (Qn 15) (Qn 16))]
def Jbh:MC:=.r0 Y69
def Y7a:=[Qa (Qv 18) (Qd (Qn 5)),Qa (Qv 4) (Qd (Qn 18))]
def Jbi:MC:=.r0 Y7a
def Yjh:=[Qa (Qv 10) (Qd (Qn 5)),Qa (Qv 11) (Qe Qt Q1 (Qn 10) (Qo (Qp (Qq (Qr Qu 1))))),Qa (Qv 5) (Qd (Qn 11))]
def Wsn:MC:=.r0 Yjh
def Wso:MC:=.seq (.seq Jbg (.cond (Qn 9) .skip (Q2 0))) (.seq (.blk 1 (.seq Jbh (.cond (Qn 17) (.seq Jbi .ret) .skip))) Wsn)
def Yji:=[Qa (Qv 4) (Qd (Qo (Qp (Qq (Qr Qu (-1))))))]
def Wsp:MC:=.r0 Yji
def Yjj:MC:=.seq Jbe (.seq (.seq Jbf (.blk 0 (.loop Wso))) (.seq Wsp .ret))
attribute [go_sem] Y66 Y67 Y68 Y69 Y7a Yjh Yji
theorem Jho:KK QP 92 f92 [] Yjj [(Qz 4)] 19:=by refine⟨func92,?_,?_,?_,?_⟩<;>kernel_rfl
theorem Jbj:Xaa QP 92=true:=by kernel_rfl
theorem Y7b (h:GI QP gp [(Qz 4)] res 19 Yjj args):Does QP gp 92 args res:=Jho.i Jbj h
def Yjk:=[Qa (Qv 10) (Qf 1 false (Qn 1)),Qa (Qv 11) (Q8 (Qn 10)),Qa (Qv 12) (Qg 0 (Qn 11)),Qa (Qv 13) (Qg 0 (Qn 12)),Qa (Qv 14) (Qf 1 false (Qn 13)),Qa (Qv 15) (MOp.bslO 1 [(Qr Qu 0)] 1 [(0,(Qn 14))]),Qa (Qv 3) (Qw [(Qx [])]),Qa none (Ql 1 (Qn 3) (Qn 15))]
def Wsq:MC:=.r0 Yjk
def Yjl:=[Qa (Qv 16) (QH (Go.Fn.func 112) [(Qn 3)]),Qa (Qv 4) (Qd (Qn 16))]
def Wsr:MC:=.r0 Yjl
def Yjm:=[Qa (Qv 17) (Qf 1 false (Qn 3)),Qa (Qv 18) (Qk Qt (Qn 17)),Qa (Qv 19) (Qe Qt QI (Qn 18) (Qo (Qp (Qq (Qr Qu 0)))))]
def Wss:MC:=.r0 Yjm
def Yjn:=[Qa (Qv 20) (Qf 1 false (Qn 3)),Qa (Qv 21) (Qf 1 false (Qn 3)),Qa (Qv 22) (Qk Qt (Qn 21)),Qa (Qv 23) (Qe Qt Q6 (Qn 22) (Qo (Qp (Qq (Qr Qu 1))))),Qa (Qv 24) (Qj 1 (Qn 20) (Qn 23)),Qa (Qv 25) (Qf 1 false (Qn 24)),Qa (Qv 5) (Qd (Qn 25))]
def Wst:MC:=.r0 Yjn
def Yjo:=[Qa (Qv 26) (Qf 1 false (Qn 3)),Qa (Qv 27) (Qf 1 false (Qn 3)),Qa (Qv 28) (Qk Qt (Qn 27)),Qa (Qv 29) (Qe Qt Q6 (Qn 28) (Qo (Qp (Qq (Qr Qu 1))))),Qa (Qv 30) (MOp.slc 1 (Qn 26) none (Qv (Qn 29))),Qa none (Ql 1 (Qn 3) (Qn 30))]
def Wsu:MC:=.r0 Yjo
def X0b:=[Qa (Qv 32) (Qf 1 false (Qn 1)),Qa (Qv 33) (Q8 (Qn 32)),Qa (Qv 34) (Qg 2 (Qn 33)),Qa (Qv 35) (Qf 1 false (Qn 34)),Qa (Qv 36) (Qd (Qn 5)),Qa (Qv 37) (QG true (Qp (Qq (Qr Qu 0))) false [Qt] (Qn 35) (Qn 36)),Qa (Qv 31) (Qd (Qn 37)),Qa (Qv 38) (Qi (Qn 31) 0),Qa (Qv 39) (Qi (Qn 31) 1),Qa (Qv 6) (Qd (Qn 38)),Qa (Qv 7) (Qd (Qn 39))]
def Ywc:MC:=.r0 X0b
def X0c:=[Qa (Qv 40) (Qd (Qn 7))]
def Ywd:MC:=.r0 X0c
def X0d:=[Qa (Qv 41) (Qf 1 false (Qn 1)),Qa (Qv 42) (Q8 (Qn 41)),Qa (Qv 43) (Qg 2 (Qn 42)),Qa (Qv 44) (Qf 1 false (Qn 43)),Qa (Qv 45) (Qd (Qn 5)),Qa (Qv 46) (Qf 1 false (Qn 1)),Qa (Qv 47) (Q8 (Qn 46)),Qa (Qv 48) (Qg 2 (Qn 47)),Qa (Qv 49) (Qf 1 false (Qn 48)),Qa (Qv 50) (Qk Leaf.b (Qn 49)),Qa none (MOp.mupd false [Qt] (Qn 44) (Qn 45) (Qn 50))]
def Ywe:MC:=.reg true X0d
def X0e:=[Qa (Qv 51) (Qd (Qn 0)),Qa (Qv 52) (Qd (Qn 5)),Qa (Qv 53) (QE (Qn 51) [(Qn 52)]),Qa (Qv 54) (MOp.not (Qn 53))]
def Ywf:MC:=.r0 X0e
def X0f:=[Qa (Qv 56) (Qf 1 false (Qn 1)),Qa (Qv 57) (Q8 (Qn 56)),Qa (Qv 58) (Qg 0 (Qn 57)),Qa (Qv 59) (Qf 2 true (Qn 58)),Qa (Qv 60) (Qd (Qn 5)),Qa (Qv 61) (Qh 51 [(Qn 59),(Qn 60)]),Qa (Qv 55) (Qd (Qn 61)),Qa (Qv 62) (Qi (Qn 55) 0),Qa (Qv 63) (Qi (Qn 55) 1),Qa (Qv 8) (Qd (Qn 62)),Qa (Qv 9) (Qd (Qn 63))]
def Ywg:MC:=.r0 X0f
def X0g:=[Qa (Qv 64) (Qd (Qn 4)),Qa (Qv 65) (Qd (Qn 8)),Qa (Qv 66) (QE (Qn 64) [(Qn 65)])]
def Ywh:MC:=.r0 X0g
def Ywi:MC:=.seq Ywe (.seq (.seq Ywf (.cond (Qn 54) (Q2 0) .skip)) (.seq Ywg Ywh))
def Ywj:MC:=.seq Wsu (.seq (.seq Ywc (.seq Ywd (.cond (Qn 40) (Q2 1) .skip))) Ywi)
def Ywk:MC:=.seq Wsr (.seq .skip (.blk 0 (.loop (.seq (.seq Wss (.cond (Qn 19) .skip (Q2 0))) (.blk 1 (.seq Wst Ywj))))))
def X0h:MC:=.scope (.seq Wsq Ywk)
attribute [go_sem] Yjk Yjl Yjm Yjn Yjo X0b X0c X0d X0e X0f X0g
theorem Jbk:KK QP 111 f111 [15] X0h [] 67:=by refine⟨func111,?_,?_,?_,?_⟩<;>kernel_rfl
theorem Wsv:Xaa QP 111=true:=by kernel_rfl
theorem Ywl (h:GT QP gp [] pre R 67 X0h args):Tri QP gp 111 args pre R:=Jbk.t h
def Yjp:=[Qa (Qv 4) (Qd (Qn 0)),Qa (Qv 5) (Qk Qt (Qn 4)),Qa (Qv 6) (Qe Qt Q6 (Qn 5) (Qo (Qp (Qq (Qr Qu 1))))),Qa (Qv 3) (Qd (Qn 6))]
def Wsw:MC:=.r0 Yjp
def Yjq:=[Qa (Qv 7) (Qd (Qn 3)),Qa (Qv 8) (Qe Qt QD (Qn 7) (Qo (Qp (Qq (Qr Qu 0)))))]
def Wsx:MC:=.r0 Yjq
def Yjr:=[Qa (Qv 11) (Qf 1 false (Qn 1)),Qa (Qv 12) (Qd (Qn 0)),Qa (Qv 13) (Qd (Qn 3)),Qa (Qv 14) (Qj 1 (Qn 12) (Qn 13)),Qa (Qv 15) (Qf 1 false (Qn 14)),Qa (Qv 16) (Q3 1 [(Qr Qu 0)] 1 [(0,(Qn 15))]),Qa (Qv 17) (Q7 3 1 8 (Qn 11) (Qn 16)),Qa none (Ql 1 (Qn 1) (Qn 17))]
def Wsy:MC:=.reg true Yjr
def Yjs:=[Qa (Qv 9) (Qd (Qn 3)),Qa (Qv 10) (Qe Qt Q6 (Qn 9) (Qo (Qp (Qq (Qr Qu 1))))),Qa (Qv 3) (Qd (Qn 10))]
def Wsz:MC:=.r0 Yjs
def X0i:MC:=.seq Wsw (.blk 0 (.loop (.seq (.seq Wsx (.cond (Qn 8) .skip (Q2 0))) (.seq (.blk 1 Wsy) Wsz))))
attribute [go_sem] Yjp Yjq Yjr Yjs
theorem Jbl:KK QP 112 f112 [] X0i [] 18:=by refine⟨func112,?_,?_,?_,?_⟩<;>kernel_rfl
theorem Ws0:Xaa QP 112=true:=by kernel_rfl
theorem Ywm (h:GT QP gp [] pre R 18 X0i args):Tri QP gp 112 args pre R:=Jbl.t h
def Yjt:=[Qa (Qv 1) (Q4 (Qn 0)),Qa (Qv 2) (Qd (Qo (Qp A.nil))),Qa (Qv 3) (Qd (Qo (Qp (Qq (Qr Qu 0)))))]
def Ws1:MC:=.r0 Yjt
def Yju:=[Qa (Qv 7) (Qf 2 true (Qn 1)),Qa (Qv 8) (Qh 153 [(Qn 7)]),Qa (Qv 6) (Qd (Qn 8)),Qa (Qv 9) (Qi (Qn 6) 0),Qa (Qv 10) (Qi (Qn 6) 1),Qa (Qv 4) (Qd (Qn 9)),Qa (Qv 5) (Qd (Qn 10))]
def Ws2:MC:=.r0 Yju
def Yjv:=[Qa (Qv 11) (Qd (Qn 5)),Qa (Qv 12) (Qe Qt Q9 (Qn 11) (Qo (Qp (Qq (Qr Qu 0)))))]
def Ws3:MC:=.r0 Yjv
def Yjw:=[Qa (Qv 13) (Qd (Qn 5)),Qa (Qv 2) (Qd (Qo (Qp A.nil))),Qa (Qv 3) (Qd (Qn 13))]
def Ws4:MC:=.r0 Yjw
def Xpa:=[Qa (Qv 14) (Qf 2 true (Qn 1)),Qa (Qv 15) (Qg 0 (Qn 1)),Qa (Qv 16) (Qf 1 false (Qn 15)),Qa (Qv 17) (Qh 154 [(Qn 14),(Qn 16),(Qo (Qp A.nil))]),Qa (Qv 2) (Qd (Qn 17)),Qa (Qv 3) (Qd (Qo (Qp (Qq (Qr Qu 0)))))]
def Ws5:MC:=.r0 Xpa
def Ywn:MC:=.seq Ws2 (.seq (.seq Ws3 (.cond (Qn 12) (.seq Ws4 .ret) .skip)) (.seq Ws5 .ret))
def X0j:MC:=.seq Ws1 Ywn
attribute [go_sem] Yjt Yju Yjv Yjw
theorem Jbm:KK QP 126 f126 [1] X0j [(Qz 2),(Qz 3)] 18:=by refine⟨func126,?_,?_,?_,?_⟩<;>kernel_rfl
theorem Ws6:Xaa QP 126=true:=by kernel_rfl
theorem Ws7 (h:GI QP gp [(Qz 2),(Qz 3)] res 18 X0j args):Does QP gp 126 args res:=Jbm.i Ws6 h
def Yjx:=[Qa (Qv 3) (Q4 (Qn 0)),Qa (Qv 6) (Qd (Qo (Qp A.nil)))]
def Ws8:MC:=.r0 Yjx
def Yjy:=[Qa (Qv 10) (Qd (Qn 2)),Qa (Qv 11) (Qd (Qn 1)),Qa (Qv 12) (Qh 92 [(Qn 10),(Qn 11)]),Qa (Qv 13) (Qe Qt QD (Qn 12) (Qo (Qp (Qq (Qr Qu 0)))))]
def Ws9:MC:=.r0 Yjy
def Yjz:=[Qa (Qv 14) (Qd (Qn 2)),Qa (Qv 6) (Qd (Qn 14))]
def Wta:MC:=.r0 Yjz
def Yj0:=[Qa (Qv 15) (Qd (Qn 2)),Qa (Qv 16) (Qd (Qn 1)),Qa (Qv 17) (Q3 1 [(Qr Qu 0)] 1 [(0,(Qn 16))]),Qa (Qv 18) (Q7 3 1 8 (Qn 15) (Qn 17)),Qa (Qv 2) (Qd (Qn 18))]
def Wtb:MC:=.r0 Yj0
def Yj1:=[Qa (Qv 20) (Qf 2 true (Qn 3)),Qa (Qv 21) (Qd (Qn 1)),Qa (Qv 22) (Qh 128 [(Qn 20),(Qn 21)]),Qa (Qv 19) (Qd (Qn 22)),Qa (Qv 23) (Qi (Qn 19) 0),Qa (Qv 24) (Qi (Qn 19) 1),Qa (Qv 7) (Qd (Qn 23)),Qa (Qv 8) (Qd (Qn 24))]
def Wtc:MC:=.r0 Yj1
def X0k:=[Qa (Qv 9) (Qd (Qo (Qp (Qq (Qr Qu 0)))))]
def Ywo:MC:=.r0 X0k
def X0l:=[Qa (Qv 25) (Qd (Qn 9)),Qa (Qv 26) (Qd (Qn 7)),Qa (Qv 27) (Qk Qt (Qn 26)),Qa (Qv 28) (Qe Qt Q0 (Qn 25) (Qn 27))]
def Ywp:MC:=.r0 X0l
def X0m:=[Qa (Qv 31) (Qf 2 true (Qn 3)),Qa (Qv 32) (Qd (Qn 7)),Qa (Qv 33) (Qd (Qn 9)),Qa (Qv 34) (Qj 1 (Qn 32) (Qn 33)),Qa (Qv 35) (Qf 1 false (Qn 34)),Qa (Qv 36) (Qd (Qn 2)),Qc (Qv 37) (Qh 154 [(Qn 31),(Qn 35),(Qn 36)]),Qa (Qv 2) (Qd (Qn 37))]
def Ywq:MC:=.reg true X0m
def X0n:=[Qa (Qv 29) (Qd (Qn 9)),Qa (Qv 30) (Qe Qt Q1 (Qn 29) (Qo (Qp (Qq (Qr Qu 1))))),Qa (Qv 9) (Qd (Qn 30))]
def Ywr:MC:=.r0 X0n
def Yws:MC:=.seq Ywo (.blk 0 (.loop (.seq (.seq Ywp (.cond (Qn 28) .skip (Q2 0))) (.seq (.blk 1 Ywq) Ywr))))
def X0o:=[Qa (Qv 38) (Qd (Qn 2)),Qa (Qv 6) (Qd (Qn 38))]
def Ywt:MC:=.r0 X0o
def Ywu:MC:=.seq Wtb (.seq Wtc (.seq Yws (.seq Ywt .ret)))
def X0p:MC:=.seq Ws8 (.seq (.seq Ws9 (.cond (Qn 13) (.seq Wta .ret) .skip)) Ywu)
attribute [go_sem] Yjx Yjy Yjz Yj0 Yj1 X0k X0l X0m X0n X0o
theorem Jbn:KK QP 154 f154 [3] X0p [(Qz 6)] 39:=by refine⟨func154,?_,?_,?_,?_⟩<;>kernel_rfl
theorem Xtm:Xaa QP 154=true:=by kernel_rfl
theorem Xj8 (h:GT QP gp [(Qz 6)] pre R 39 X0p args):Tri QP gp 154 args pre R:=Jbn.t h
end Go.Fw.L07
