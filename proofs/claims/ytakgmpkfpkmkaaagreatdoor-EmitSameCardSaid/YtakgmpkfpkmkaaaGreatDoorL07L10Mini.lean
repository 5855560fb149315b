/- Small codes. -/
import Derived.Test.YtakgmpkfpkmkaaaGreatDoorFd
import Derived.Test.YtakgmpkfpkmkaaaGreatDoorProg
set_option linter.all false
namespace Go.Fw.L07
open Go Go.Fw
open Go.Proofs.Tryz renaming prog->QP
open Go.Proofs.Tryz (f101 f102 f137 f165 f185 f186 f201 f202 f67 func101 func102 func137 func165 func185 func186 func201 func202 func67)
open Go.Fw.MO renaming op->Qa
open Go.Fw.MOp renaming mv->Qd,bin->Qe,load->Qf,fad->Qg,call->Qh,ext->Qi,iad->Qj,len->Qk,store->Ql,nck->Q0,alloc->Q3,callv->Q5,build->Q6,ibox->Q7,bldN->Q8,mkS->Q9,box->QA,lkp->QB,not->QC
open Go.Fw.Opd renaming t->Qn,c->Qo
open Go.Fw.V renaming one->Qp
open Go.Fw.A renaming d->Qq
open Go.Fw.D renaming int->Qr,str->Qy
open Go.Fw.Leaf renaming i->Qt,s->Qz,b->QF
open Go.IntKind renaming i64->Qu
open Option renaming some->Qv
open _root_.ByteArray renaming mk->Qw
open Go.BinOp renaming add->Qx,lss->Q2,neq->QD,gtr->QE
open Go.Fw.RV renaming t->Q1
open Go.Fw.MC renaming exit->Q4
variable {gp:Heap} {args:List V} {res:V} {pre:List Ch} {R:V->List Ch->Prop}
def Yxp:=[Qa (Qv 1) (Q7 (Qn 0)),Qa (Qv 2) (Qd (Qo (Qp A.nil))),Qa (Qv 3) (Qd (Qo (Qp (Qq (Qr Qu 0)))))]
def Wsr:MC:=.r0 Yxp
def Yxq:=[Qa (Qv 7) (Qf 2 true (Qn 1)),Qa (Qv 8) (Qh 47 [(Qn 7)]),Qa (Qv 6) (Qd (Qn 8)),Qa (Qv 9) (Qi (Qn 6) 0),Qa (Qv 10) (Qi (Qn 6) 1),Qa (Qv 4) (Qd (Qn 9)),Qa (Qv 5) (Qd (Qn 10))]
def Wss:MC:=.r0 Yxq
def Yxr:=[Qa (Qv 11) (Qd (Qn 5)),Qa (Qv 12) (Qe Qt QD (Qn 11) (Qo (Qp (Qq (Qr Qu 0)))))]
def Wst:MC:=.r0 Yxr
def Yxs:=[Qa (Qv 13) (Qd (Qn 5)),Qa (Qv 2) (Qd (Qo (Qp A.nil))),Qa (Qv 3) (Qd (Qn 13))]
def Wsu:MC:=.r0 Yxs
def Yes:=[Qa (Qv 14) (Qf 2 true (Qn 1)),Qa (Qv 15) (Qh 101 [(Qn 14)]),Qa (Qv 16) (Qh 102 [(Qn 15)]),Qa (Qv 2) (Qd (Qn 16)),Qa (Qv 3) (Qd (Qo (Qp (Qq (Qr Qu 0)))))]
def Wc4:MC:=.r0 Yes
def Wc5:MC:=.seq (.seq Wss (.seq Wst (.cond (Qn 12) (.seq Wsu .ret) .skip))) (.seq Wc4 .ret)
def Yet:MC:=.seq Wsr Wc5
attribute [go_sem] Yxp Yxq Yxr Yxs Yes
theorem Wy0:KK QP 67 f67 [1] Yet [(Q1 2),(Q1 3)] 17:=by refine⟨func67,?_,?_,?_,?_⟩<;>kernel_rfl
theorem Wsv:Xaa QP 67=true:=by kernel_rfl
theorem Wsw (h:GI QP gp [(Q1 2),(Q1 3)] res 17 Yet args):Does QP gp 67 args res:=Wy0.i Wsv h
def Yeu:=[Qa (Qv 1) (Q7 (Qn 0)),Qa (Qv 2) (Qd (Qo (Qp (Qq D.nilP))))]
def Wc6:MC:=.r0 Yeu
def Yev:=[Qa (Qv 3) (Qf 2 true (Qn 1)),Qa (Qv 4) (Qg 1 (Qn 1)),Qa (Qv 5) (Qf 1 false (Qn 4)),Qa (Qv 6) (Qk Qt (Qn 5)),Qa (Qv 7) (Q9 1 8 [(Qr Qu 0)] (Qn 6)),Qa (Qv 8) (Q6 [(Qr Qu 0),(D.sl []),(D.sl [])] [(0,(2,(Qn 3))),(2,(1,(Qn 7)))]),Qa (Qv 9) (QA (Qn 8)),Qa (Qv 2) (Qd (Qn 9))]
def Wc7:MC:=.reg true Yev
def Yew:MC:=.seq Wc6 (.seq Wc7 .ret)
attribute [go_sem] Yeu Yev
theorem Wsx:KK QP 101 f101 [1] Yew [(Q1 2)] 10:=by refine⟨func101,?_,?_,?_,?_⟩<;>kernel_rfl
theorem Wc8:Xaa QP 101=true:=by kernel_rfl
theorem Yoe (h:GT QP gp [(Q1 2)] pre R 10 Yew args):Tri QP gp 101 args pre R:=Wsx.t h
def Yex:=[Qa (Qv 2) (Qd (Qo (Qp A.nil)))]
def Wc9:MC:=.r0 Yex
def Yey:=[Qa (Qv 6) (Qd (Qn 0)),Qa (Qv 7) (MOp.mkMv (Go.Fn.func 137) (Qn 6)),Qa (Qv 3) (Qd (Qn 7))]
def Wda:MC:=.r0 Yey
def Yez:=[Qa (Qv 8) (Qd (Qn 3)),Qa (Qv 9) (Q5 (Qn 8) []),Qa (Qv 4) (Qd (Qo (Qp (Qq (Qr Qu 0))))),Qa (Qv 5) (Qd (Qn 9))]
def Wdb:MC:=.r0 Yez
def Ye0:=[Qa (Qv 10) (Qd (Qn 5)),Qa (Qv 11) (Qd (Qn 4)),Qa (Qv 12) (Qe Qt QE (Qn 10) (Qn 11))]
def Wdc:MC:=.r0 Ye0
def Ye1:=[Qa (Qv 13) (Qd (Qn 5)),Qa (Qv 14) (Qd (Qn 3)),Qa (Qv 15) (Q5 (Qn 14) []),Qa (Qv 4) (Qd (Qn 13)),Qa (Qv 5) (Qd (Qn 15))]
def Wdd:MC:=.r0 Ye1
def Xyz:=[Qa (Qv 16) (Qd (Qn 0)),Qa (Qv 17) (Q0 (Qn 16)),Qa (Qv 18) (Qg 2 (Qn 17)),Qa (Qv 19) (Qf 1 false (Qn 18)),Qa (Qv 2) (Qd (Qn 19))]
def Yof:MC:=.r0 Xyz
def Yog:MC:=.seq (.seq Wdb (.blk 0 (.loop (.seq (.seq Wdc (.cond (Qn 12) .skip (Q4 0))) (.blk 1 Wdd))))) (.seq Yof .ret)
def Xy0:MC:=.seq Wc9 (.seq Wda Yog)
attribute [go_sem] Yex Yey Yez Ye0 Ye1 Xyz
theorem Wsy:KK QP 102 f102 [] Xy0 [(Q1 2)] 20:=by refine⟨func102,?_,?_,?_,?_⟩<;>kernel_rfl
theorem Wde:Xaa QP 102=true:=by kernel_rfl
theorem Yoh (h:GT QP gp [(Q1 2)] pre R 20 Xy0 args):Tri QP gp 102 args pre R:=Wsy.t h
-- f103: no body
-- f104: no body
-- f105: no body
-- f106: trC none
def Ye2:=[Qa (Qv 2) (Qd (Qo (Qp (Qq (Qr Qu 0)))))]
def Wdf:MC:=.r0 Ye2
def Ye3:=[Qa (Qv 9) MOp.mkM,Qa (Qv 3) (Q3 [(D.raw (Go.Value.map none))]),Qa none (Ql 1 (Qn 3) (Qn 9))]
def Wdg:MC:=.r0 Ye3
def Ye4:=[Qa (Qv 10) (Qd (Qn 0)),Qa (Qv 11) (Q0 (Qn 10)),Qa (Qv 12) (Qg 2 (Qn 11)),Qa (Qv 13) (Qf 1 false (Qn 12)),Qa (Qv 14) (Qk Qt (Qn 13)),Qa (Qv 15) (Q9 1 8 [(Qr Qu 0)] (Qn 14)),Qa (Qv 4) (Q3 [(D.sl [])]),Qa none (Ql 1 (Qn 4) (Qn 15))]
def Wdh:MC:=.r0 Ye4
def Ye5:=[Qa (Qv 16) (Qd (Qn 0)),Qa (Qv 17) (Qh 165 [(Qn 16)])]
def Wdi:MC:=.r0 Ye5
def Ye6:=[Qa (Qv 5) (Qd (Qn 18))]
def Wdj:MC:=.r0 Ye6
def Ye7:=[Qa (Qv 6) (Q3 [(Qr Qu 0),(Qr Qu 0),(Qr Qu 0),(Qy (Qw #[])),(Qy (Qw #[])),(Qy (Qw #[]))]),Qa none (Ql 6 (Qn 6) (Qn 19))]
def Wdk:MC:=.r0 Ye7
def Ye8:=[Qa (Qv 21) (Qf 1 false (Qn 3)),Qa (Qv 22) (Qf 6 true (Qn 6)),Qa (Qv 23) (QB true (Qp (Qq (Qr Qu 0))) true [Qt,Qt,Qt,Qz,Qz,Qz] (Qn 21) (Qn 22)),Qa (Qv 20) (Qd (Qn 23)),Qa (Qv 24) (Qi (Qn 20) 0),Qa (Qv 25) (Qi (Qn 20) 1),Qa (Qv 7) (Qd (Qn 24)),Qa (Qv 8) (Qd (Qn 25))]
def Wdl:MC:=.r0 Ye8
def Ye9:=[Qa (Qv 26) (Qd (Qn 8)),Qa (Qv 27) (QC (Qn 26))]
def Wdm:MC:=.r0 Ye9
def Yfa:=[Qa (Qv 28) (Qf 1 false (Qn 3)),Qa (Qv 29) (Qf 6 true (Qn 6)),Qa (Qv 30) (Qf 1 false (Qn 3)),Qa (Qv 31) (Qk QF (Qn 30)),Qa none (MOp.mupd true [Qt,Qt,Qt,Qz,Qz,Qz] (Qn 28) (Qn 29) (Qn 31))]
def Wdn:MC:=.r0 Yfa
def Xy1:=[Qa (Qv 32) (Qf 1 false (Qn 4)),Qa (Qv 33) (Qd (Qn 5)),Qa (Qv 34) (Qf 1 false (Qn 3)),Qa (Qv 35) (Qf 6 true (Qn 6)),Qa (Qv 36) (QB false (Qp (Qq (Qr Qu 0))) true [Qt,Qt,Qt,Qz,Qz,Qz] (Qn 34) (Qn 35)),Qa (Qv 37) (Qj 1 (Qn 32) (Qn 33)),Qa none (Ql 1 (Qn 37) (Qn 36))]
def Yoi:MC:=.reg true Xy1
def Yoj:MC:=.seq (.seq Wdl (.seq Wdm (.cond (Qn 27) Wdn .skip))) Yoi
def Yok:MC:=.rf (Qn 17) [18,19] (.seq Wdj Wdk) (.blk 1 Yoj)
def Xy2:=[Qa (Qv 38) (Qd (Qn 0)),Qa (Qv 39) (Q0 (Qn 38)),Qa (Qv 40) (Qg 2 (Qn 39)),Qa (Qv 41) (Qf 1 false (Qn 40)),Qa (Qv 42) (Qf 1 false (Qn 4)),Qa (Qv 43) (MOp.cpy 1 (Qn 41) (Qn 42))]
def Yol:MC:=.reg true Xy2
def Xy3:=[Qa (Qv 44) (Qf 1 false (Qn 3)),Qa (Qv 45) (Qk QF (Qn 44)),Qa (Qv 2) (Qd (Qn 45))]
def Yom:MC:=.r0 Xy3
def Yon:MC:=.seq (.seq Wdi (.blk 0 Yok)) (.seq Yol (.seq Yom .ret))
def Xy4:MC:=.seq Wdf (.seq Wdg (.seq Wdh Yon))
attribute [go_sem] Ye2 Ye3 Ye4 Ye5 Ye6 Ye7 Ye8 Ye9 Yfa Xy1 Xy2 Xy3
theorem Wsz:KK QP 137 f137 [] Xy4 [(Q1 2)] 46:=by refine⟨func137,?_,?_,?_,?_⟩<;>kernel_rfl
theorem Yfb:Xaa QP 137=true:=by kernel_rfl
theorem Yoo (h:GT QP gp [(Q1 2)] pre R 46 Xy4 args):Tri QP gp 137 args pre R:=Wsz.t h
-- f138: no body
-- f139: no body
-- f140: no body
def Yfc:=[Qa (Qv 1) (QA (Qn 0)),Qa (Qv 2) (Qd (Qo (Qp (Qq D.nilF))))]
def Wdo:MC:=.r0 Yfc
def Yfd:=[Qa (Qv 3) (MOp.mkF (Go.Fn.func 185) [(Qn 1)]),Qa (Qv 2) (Qd (Qn 3))]
def Wdp:MC:=.r0 Yfd
def Yfe:MC:=.seq Wdo (.seq Wdp .ret)
attribute [go_sem] Yfc Yfd
theorem Ws0:KK QP 165 f165 [] Yfe [(Q1 2)] 4:=by refine⟨func165,?_,?_,?_,?_⟩<;>kernel_rfl
theorem Wdq:Xaa QP 165=true:=by kernel_rfl
theorem Yop (h:GT QP gp [(Q1 2)] pre R 4 Yfe args):Tri QP gp 165 args pre R:=Ws0.t h
def Yff:=[Qa (Qv 4) (Qf 1 false (Qn 1)),Qa (Qv 5) (Q0 (Qn 4)),Qa (Qv 6) (Qg 0 (Qn 5)),Qa (Qv 7) (Qg 1 (Qn 6)),Qa (Qv 8) (Qf 1 false (Qn 7)),Qa (Qv 9) (Qk Qt (Qn 8)),Qa (Qv 10) (Qd (Qo (Qp (Qq (Qr Qu 0)))))]
def Wdr:MC:=.r0 Yff
def Yfg:=[Qa (Qv 11) (Qe Qt Q2 (Qn 10) (Qn 9))]
def Wds:MC:=.r0 Yfg
def Yfh:=[Qa (Qv 12) (Qd (Qn 10)),Qa (Qv 3) (Qd (Qn 12))]
def Wdt:MC:=.r0 Yfh
def Yfi:=[Qa (Qv 13) (Qd (Qn 0)),Qa (Qv 14) (Qd (Qn 3)),Qa (Qv 15) (Qf 1 false (Qn 1)),Qa (Qv 16) (Qd (Qn 3)),Qa (Qv 17) (Qh 186 [(Qn 15),(Qn 16)]),Qa (Qv 18) (Q5 (Qn 13) [(Qn 14),(Qn 17)]),Qa (Qv 19) (QC (Qn 18))]
def Wdu:MC:=.r0 Yfi
def Xy5:=[Qa (Qv 20) (Qe Qt Qx (Qn 10) (Qo (Qp (Qq (Qr Qu 1))))),Qa (Qv 10) (Qd (Qn 20))]
def Yoq:MC:=.r0 Xy5
def Yor:MC:=.seq Wds (.seq (.cond (Qn 11) .skip (Q4 0)) (.seq (.blk 1 (.seq Wdt (.seq Wdu (.cond (Qn 19) (Q4 0) .skip)))) Yoq))
def Xy6:MC:=.scope (.seq .skip (.seq Wdr (.blk 0 (.loop Yor))))
attribute [go_sem] Yff Yfg Yfh Yfi Xy5
theorem Ws1:KK QP 185 f185 [] Xy6 [] 21:=by refine⟨func185,?_,?_,?_,?_⟩<;>kernel_rfl
theorem Wdv:Xaa QP 185=true:=by kernel_rfl
theorem Yos (h:GT QP gp [] pre R 21 Xy6 args):Tri QP gp 185 args pre R:=Ws1.t h
def Yfj:=[Qa (Qv 4) (Q3 [(Qr Qu 0),(Qr Qu 0),(Qr Qu 0),(Qy (Qw #[])),(Qy (Qw #[])),(Qy (Qw #[]))])]
def Wdw:MC:=.r0 Yfj
def Yfk:=[Qa (Qv 10) (Qd (Qn 0)),Qa (Qv 11) (Q0 (Qn 10)),Qa (Qv 12) (Qg 0 (Qn 11)),Qa (Qv 13) (Qf 2 true (Qn 12)),Qa (Qv 14) (Qd (Qn 1)),Qa (Qv 15) (Qh 51 [(Qn 13),(Qn 14)]),Qa (Qv 9) (Qd (Qn 15)),Qa (Qv 16) (Qi (Qn 9) 0),Qa (Qv 17) (Qi (Qn 9) 1),Qa (Qv 5) (Qd (Qn 16)),Qa (Qv 6) (Qd (Qn 17))]
def Wdx:MC:=.r0 Yfk
def Yfl:=[Qa (Qv 18) (Qd (Qn 5)),Qa (Qv 19) (Qk Qt (Qn 18)),Qa (Qv 20) (Qd (Qo (Qp (Qq (Qr Qu 0)))))]
def Wdy:MC:=.r0 Yfl
def Yfm:=[Qa (Qv 21) (Qe Qt Q2 (Qn 20) (Qn 19))]
def Wdz:MC:=.r0 Yfm
def Yfn:=[Qa (Qv 22) (Qd (Qn 20)),Qa (Qv 23) (Qj 1 (Qn 18) (Qn 20)),Qa (Qv 24) (Qf 1 false (Qn 23)),Qa (Qv 7) (Qd (Qn 22)),Qa (Qv 8) (Qd (Qn 24))]
def Wd0:MC:=.r0 Yfn
def Yfo:=[Qa (Qv 25) (Qd (Qn 5)),Qa (Qv 26) (Qd (Qn 7)),Qa (Qv 27) (Qd (Qn 0)),Qa (Qv 28) (Q0 (Qn 27)),Qa (Qv 29) (Qg 2 (Qn 28)),Qa (Qv 30) (Qf 1 false (Qn 29)),Qa (Qv 31) (Qd (Qn 8)),Qa (Qv 32) (Qj 1 (Qn 30) (Qn 31)),Qa (Qv 33) (Qf 1 false (Qn 32)),Qa (Qv 34) (Qj 1 (Qn 25) (Qn 26)),Qa none (Ql 1 (Qn 34) (Qn 33))]
def Wd1:MC:=.r0 Yfo
def Xy7:=[Qa (Qv 35) (Qe Qt Qx (Qn 20) (Qo (Qp (Qq (Qr Qu 1))))),Qa (Qv 20) (Qd (Qn 35))]
def Yot:MC:=.r0 Xy7
def You:MC:=.seq Wdz (.seq (.cond (Qn 21) .skip (Q4 0)) (.seq (.blk 1 (.seq Wd0 Wd1)) Yot))
def Xy8:=[Qa (Qv 36) (Qd (Qn 0)),Qa (Qv 37) (Q0 (Qn 36)),Qa (Qv 38) (Qg 0 (Qn 37)),Qa (Qv 39) (Qg 1 (Qn 38)),Qa (Qv 40) (Qf 1 false (Qn 39)),Qa (Qv 41) (Qd (Qn 1)),Qa (Qv 42) (Qj 6 (Qn 40) (Qn 41)),Qa (Qv 43) (Qg 0 (Qn 42)),Qa (Qv 44) (Qf 1 false (Qn 43)),Qa (Qv 45) (Qd (Qn 0)),Qa (Qv 46) (Q0 (Qn 45)),Qa (Qv 47) (Qg 0 (Qn 46)),Qa (Qv 48) (Qg 1 (Qn 47)),Qa (Qv 49) (Qf 1 false (Qn 48)),Qa (Qv 50) (Qd (Qn 1)),Qa (Qv 51) (Qj 6 (Qn 49) (Qn 50)),Qa (Qv 52) (Qg 1 (Qn 51)),Qa (Qv 53) (Qf 3 true (Qn 52)),Qa (Qv 54) (Qd (Qn 0)),Qa (Qv 55) (Qd (Qn 1)),Qa (Qv 56) (Qh 201 [(Qn 54),(Qn 55)]),Qa (Qv 57) (Qd (Qn 5)),Qa (Qv 58) (Qh 202 [(Qn 57)]),Qa (Qv 59) (Q6 [(Qr Qu 0),(Qr Qu 0),(Qr Qu 0),(Qy (Qw #[])),(Qy (Qw #[])),(Qy (Qw #[]))] [(0,(1,(Qn 44))),(1,(3,(Qn 53))),(4,(1,(Qn 56))),(5,(1,(Qn 58)))]),Qa none (Ql 6 (Qn 4) (Qn 59))]
def Yov:MC:=.reg true Xy8
def Yow:MC:=.seq Wdx (.seq (.seq Wdy (.blk 0 (.loop You))) (.seq Yov .ret))
def Xy9:MC:=.seq Wdw Yow
attribute [go_sem] Yfj Yfk Yfl Yfm Yfn Yfo Xy7 Xy8
theorem Ws2:KK QP 186 f186 [] Xy9 [(RV.cell 4 6 true)] 60:=by refine⟨func186,?_,?_,?_,?_⟩<;>kernel_rfl
theorem Wd2:Xaa QP 186=true:=by kernel_rfl
theorem Wd3 (h:GI QP gp [(RV.cell 4 6 true)] res 60 Xy9 args):Does QP gp 186 args res:=Ws2.i Wd2 h
def Yfp:=[Qa (Qv 4) (Qd (Qo (Qp (Qq (Qy (Qw #[]))))))]
def Wd4:MC:=.r0 Yfp
def Yfq:=[Qa (Qv 13) (Qd (Qn 0)),Qa (Qv 14) (Q0 (Qn 13)),Qa (Qv 15) (Qg 0 (Qn 14)),Qa (Qv 16) (Qf 2 true (Qn 15)),Qa (Qv 17) (Qd (Qn 1)),Qa (Qv 18) (Qh 50 [(Qn 16),(Qn 17)]),Qa (Qv 12) (Qd (Qn 18)),Qa (Qv 19) (Qi (Qn 12) 0),Qa (Qv 20) (Qi (Qn 12) 1),Qa (Qv 5) (Qd (Qn 19)),Qa (Qv 6) (Qd (Qn 20))]
def Wd5:MC:=.r0 Yfq
def Yfr:=[Qa (Qv 7) (Q8 56 5)]
def Wd6:MC:=.r0 Yfr
def Yfs:=[Qa (Qv 21) (Qd (Qn 5)),Qa (Qv 22) (Qk Qt (Qn 21)),Qa (Qv 23) (Qd (Qo (Qp (Qq (Qr Qu 0)))))]
def Wd7:MC:=.r0 Yfs
def Yft:=[Qa (Qv 24) (Qe Qt Q2 (Qn 23) (Qn 22))]
def Wd8:MC:=.r0 Yft
def Yfu:=[Qa (Qv 25) (Qj 3 (Qn 21) (Qn 23)),Qa (Qv 26) (Qf 3 true (Qn 25)),Qa (Qv 9) (Q3 [(Qr Qu 0),(Qr Qu 0),(Qy (Qw #[]))]),Qa none (Ql 3 (Qn 9) (Qn 26))]
def Wd9:MC:=.r0 Yfu
def Yfv:=[Qa (Qv 28) (Qf 3 true (Qn 9)),Qa (Qv 29) (Qh 19 [(Qn 28)]),Qa (Qv 27) (Qd (Qn 29)),Qa (Qv 30) (Qi (Qn 27) 0),Qa (Qv 31) (Qi (Qn 27) 1),Qa (Qv 10) (Qd (Qn 30)),Qa (Qv 11) (Qd (Qn 31))]
def Wea:MC:=.r0 Yfv
def Xza:=[Qa (Qv 32) (Qd (Qn 10)),Qa (Qv 33) (Qe Qz Qx (Qn 32) (Qo (Qp (Qq (Qy (Qw #[44])))))),Qa (Qv 34) (Qh 27 [(Qn 7),(Qn 33)])]
def Yox:MC:=.r0 Xza
def Xzb:=[Qa (Qv 35) (Qe Qt Qx (Qn 23) (Qo (Qp (Qq (Qr Qu 1))))),Qa (Qv 23) (Qd (Qn 35))]
def Yoy:MC:=.r0 Xzb
def Yoz:MC:=.seq (.blk 1 (.seq Wd9 (.seq Wea Yox))) Yoy
def Xzc:=[Qa (Qv 36) (Qh 28 [(Qn 7)]),Qa (Qv 4) (Qd (Qn 36))]
def Yo0:MC:=.r0 Xzc
def Yo1:MC:=.seq (.seq Wd7 (.blk 0 (.loop (.seq Wd8 (.seq (.cond (Qn 24) .skip (Q4 0)) Yoz))))) (.seq Yo0 .ret)
def Xzd:MC:=.seq Wd4 (.seq Wd5 (.seq Wd6 Yo1))
attribute [go_sem] Yfp Yfq Yfr Yfs Yft Yfu Yfv Xza Xzb Xzc
theorem Ws3:KK QP 201 f201 [] Xzd [(Q1 4)] 37:=by refine⟨func201,?_,?_,?_,?_⟩<;>kernel_rfl
theorem Web:Xaa QP 201=true:=by kernel_rfl
theorem Wec (h:GI QP gp [(Q1 4)] res 37 Xzd args):Does QP gp 201 args res:=Ws3.i Web h
def Yfw:=[Qa (Qv 2) (Qd (Qo (Qp (Qq (Qy (Qw #[]))))))]
def Wed:MC:=.r0 Yfw
def Yfx:=[Qa (Qv 3) (Q8 56 5)]
def Wee:MC:=.r0 Yfx
def Yfy:=[Qa (Qv 6) (Qd (Qn 0)),Qa (Qv 7) (Qk Qt (Qn 6)),Qa (Qv 8) (Qd (Qo (Qp (Qq (Qr Qu 0)))))]
def Wef:MC:=.r0 Yfy
def Yfz:=[Qa (Qv 9) (Qe Qt Q2 (Qn 8) (Qn 7))]
def Weg:MC:=.r0 Yfz
def Yf0:=[Qa (Qv 10) (Qj 1 (Qn 6) (Qn 8)),Qa (Qv 11) (Qf 1 false (Qn 10)),Qa (Qv 5) (Qd (Qn 11))]
def Weh:MC:=.r0 Yf0
def Yf1:=[Qa (Qv 12) (Qd (Qn 5)),Qa (Qv 13) (Qh 65 [(Qn 12)]),Qa (Qv 14) (Qe Qz Qx (Qn 13) (Qo (Qp (Qq (Qy (Qw #[44])))))),Qa (Qv 15) (Qh 27 [(Qn 3),(Qn 14)])]
def Wei:MC:=.r0 Yf1
def Xze:=[Qa (Qv 16) (Qe Qt Qx (Qn 8) (Qo (Qp (Qq (Qr Qu 1))))),Qa (Qv 8) (Qd (Qn 16))]
def Yo2:MC:=.r0 Xze
def Yo3:MC:=.seq Weg (.seq (.cond (Qn 9) .skip (Q4 0)) (.seq (.blk 1 (.seq Weh Wei)) Yo2))
def Xzf:=[Qa (Qv 17) (Qh 28 [(Qn 3)]),Qa (Qv 2) (Qd (Qn 17))]
def Yo4:MC:=.r0 Xzf
def Yo5:MC:=.seq Wee (.seq (.seq Wef (.blk 0 (.loop Yo3))) (.seq Yo4 .ret))
def Xzg:MC:=.seq Wed Yo5
attribute [go_sem] Yfw Yfx Yfy Yfz Yf0 Yf1 Xze Xzf
theorem Ws4:KK QP 202 f202 [] Xzg [(Q1 2)] 18:=by refine⟨func202,?_,?_,?_,?_⟩<;>kernel_rfl
theorem Wej:Xaa QP 202=true:=by kernel_rfl
theorem Wek (h:GI QP gp [(Q1 2)] res 18 Xzg args):Does QP gp 202 args res:=Ws4.i Wej h
end Go.Fw.L07
