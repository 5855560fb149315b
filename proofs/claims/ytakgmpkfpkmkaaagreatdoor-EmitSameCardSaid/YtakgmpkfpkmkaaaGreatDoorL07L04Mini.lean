/- Small codes. -/
import Derived.Test.YtakgmpkfpkmkaaaGreatDoorFd
import Derived.Test.YtakgmpkfpkmkaaaGreatDoorProg
set_option linter.all false
namespace Go.Fw.L07
open Go Go.Fw
open Go.Proofs.Tryz renaming prog->QP
open Go.Proofs.Tryz (f100 f136 f164 f19 f27 f36 f37 f38 f39 f64 f66 f94 f96 f97 f98 f99 func100 func136 func164 func19 func27 func36 func37 func38 func39 func64 func66 func94 func96 func97 func98 func99)
open Go.Fw.MO renaming op->Qa,chk->Qb,opx->Qc
open Go.Fw.MOp renaming mv->Qd,bin->Qe,load->Qf,fad->Qg,call->Qh,ext->Qi,iad->Qj,len->Qk,store->Ql,pick->Qm,bslice->Q1,conv->Q2,callv->Q8,nck->QC,ibox->QD,app->QE,mkMv->QF,mupd->QI,build->QL,alloc->QM,idxS->QN,not->QO
open Go.Fw.Opd renaming t->Qn,c->Qo
open Go.Fw.V renaming one->Qp
open Go.Fw.A renaming d->Qq
open Go.Fw.D renaming int->Qr,bool->Qs,str->Q7,nilF->QB,nilI->QJ
open Go.Fw.Leaf renaming i->Qt
open Go.IntKind renaming i64->Qu,u8->Qw,i32->Qx,u32->Qz,u64->Q3
open Option renaming some->Qv
open _root_.ByteArray renaming mk->Qy
open Go.Fw.RV renaming t->Q0
open Go.BinOp renaming or->Q4,shr->Q5,and->Q6,lss->Q9,leq->QA,eql->QG,add->QH,sub->QR,geq->QS,neq->QT,gtr->QU
open Go.Fw.MC renaming exit->QK
variable {gp:Heap} {args:List V} {res:V} {pre:List Ch} {R:V->List Ch->Prop}
def Yu8:=[Qa (Qv 1) (QD (Qn 0)),Qa (Qv 2) (Qd (Qo (Qp (Qq (Q7 (Qy #[])))))),Qa (Qv 3) (Qd (Qo (Qp (Qq (Qr Qu 0)))))]
def Wpf:MC:=.r0 Yu8
def Yu9:=[Qa (Qv 6) (Qf 3 true (Qn 1)),Qa (Qv 7) (Qh 35 [(Qn 6)]),Qa (Qv 8) (QO (Qn 7))]
def Wpg:MC:=.r0 Yu9
def Yva:=[Qa (Qv 2) (Qd (Qo (Qp (Qq (Q7 (Qy #[])))))),Qa (Qv 3) (Qd (Qo (Qp (Qq (Qr Qu 60)))))]
def Wph:MC:=.r0 Yva
def Yvb:=[Qa (Qv 9) (Qf 3 true (Qn 1)),Qa (Qv 10) (QL [(Qr Qu 0),(Qr Qu 0),(Q7 (Qy #[]))] [(0,(3,(Qn 9)))]),Qa (Qv 4) (QM [(Qr Qu 0),(Qr Qu 0),(Q7 (Qy #[]))]),Qa none (Ql 3 (Qn 4) (Qn 10))]
def Wpi:MC:=.r0 Yvb
def Yvc:=[Qa (Qv 11) (Qf 3 true (Qn 4)),Qa (Qv 12) (QF (Go.Fn.func 36) (Qn 11)),Qa (Qv 13) (Qf 3 true (Qn 4)),Qa (Qv 14) (QF (Go.Fn.func 37) (Qn 13)),Qa (Qv 15) (Qf 3 true (Qn 4)),Qa (Qv 16) (QF (Go.Fn.func 38) (Qn 15)),Qa (Qv 17) (Qf 3 true (Qn 4)),Qa (Qv 18) (QF (Go.Fn.func 39) (Qn 17)),Qa (Qv 19) (QL [QB,QB,QB,QB] [(0,(1,(Qn 12))),(1,(1,(Qn 14))),(2,(1,(Qn 16))),(3,(1,(Qn 18)))]),Qa (Qv 5) (QM [QB,QB,QB,QB]),Qa none (Ql 4 (Qn 5) (Qn 19))]
def Wpj:MC:=.r0 Yvc
def Yby:=[Qa (Qv 20) (Qg 0 (Qn 1)),Qa (Qv 21) (Qf 1 false (Qn 20)),Qa (Qv 22) (MOp.iadA 4 1 (Qn 5) (Qn 21)),Qa (Qv 23) (Qf 1 false (Qn 22)),Qa (Qv 24) (Q8 (Qn 23) []),Qa (Qv 2) (Qd (Qn 24)),Qa (Qv 3) (Qd (Qo (Qp (Qq (Qr Qu 0)))))]
def Waf:MC:=.r0 Yby
def Wag:MC:=.seq (.seq Wpg (.cond (Qn 8) (.seq Wph .ret) .skip)) (.seq Wpi (.seq Wpj (.seq Waf .ret)))
def Ybz:MC:=.seq Wpf Wag
attribute [go_sem] Yu8 Yu9 Yva Yvb Yvc Yby
theorem Wyd:KK QP 19 f19 [1] Ybz [(Q0 2),(Q0 3)] 25:=by refine⟨func19,?_,?_,?_,?_⟩<;>kernel_rfl
theorem Wpk:Xaa QP 19=true:=by kernel_rfl
theorem Wpl (h:GI QP gp [(Q0 2),(Q0 3)] res 25 Ybz args):Does QP gp 19 args res:=Wyd.i Wpk h
def Yvd:=[Qa (Qv 4) (Qd (Qo (Qp (Qq (Qr Qu 0))))),Qa (Qv 5) (Qd (Qo (Qp (Qq QJ))))]
def Wpm:MC:=.r0 Yvd
def Yve:=[Qa (Qv 6) (Qd (Qn 0)),Qa (Qv 7) (Qh 58 [(Qn 6)])]
def Wpn:MC:=.r0 Yve
def Yvf:=[Qa (Qv 8) (Qd (Qn 0)),Qa (Qv 9) (Qd (Qn 0)),Qa (Qv 10) (QC (Qn 9)),Qa (Qv 11) (Qg 1 (Qn 10)),Qa (Qv 12) (Qf 1 false (Qn 11)),Qa (Qv 13) (Qd (Qn 1)),Qa (Qv 14) (MOp.appS 5 (Qn 12) (Qn 13)),Qa (Qv 15) (QC (Qn 8)),Qa (Qv 16) (Qg 1 (Qn 15)),Qa none (Ql 1 (Qn 16) (Qn 14))]
def Wpo:MC:=.r0 Yvf
def Yvg:=[Qa (Qv 17) (Qd (Qn 1)),Qa (Qv 18) (Qk Leaf.s (Qn 17)),Qa (Qv 4) (Qd (Qn 18)),Qa (Qv 5) (Qd (Qo (Qp (Qq QJ))))]
def Wpp:MC:=.r0 Yvg
def Yvh:MC:=.seq Wpm (.seq Wpn (.seq Wpo (.seq Wpp .ret)))
attribute [go_sem] Yvd Yve Yvf Yvg
theorem Wye:KK QP 27 f27 [] Yvh [(Q0 4),(Q0 5)] 19:=by refine⟨func27,?_,?_,?_,?_⟩<;>kernel_rfl
theorem Yb0:Xaa QP 27=true:=by kernel_rfl
theorem Wah (h:GT QP gp [(Q0 4),(Q0 5)] pre R 19 Yvh args):Tri QP gp 27 args pre R:=Wye.t h
-- f28: trC none
def Yvi:=[Qa (Qv 1) (QD (Qn 0)),Qa (Qv 2) (Qd (Qo (Qp (Qq (Q7 (Qy #[]))))))]
def Wpq:MC:=.r0 Yvi
def Yvj:=[Qa (Qv 2) (Qd (Qo (Qp (Qq (Q7 (Qy #[110,117,108,108]))))))]
def Wpr:MC:=.r0 Yvj
def Yvk:MC:=.seq Wpq (.seq Wpr .ret)
attribute [go_sem] Yvi Yvj
theorem Wyf:KK QP 36 f36 [1] Yvk [(Q0 2)] 3:=by refine⟨func36,?_,?_,?_,?_⟩<;>kernel_rfl
theorem Wps:Xaa QP 36=true:=by kernel_rfl
theorem Wpt (h:GI QP gp [(Q0 2)] res 3 Yvk args):Does QP gp 36 args res:=Wyf.i Wps h
def Yvl:=[Qa (Qv 1) (QD (Qn 0)),Qa (Qv 2) (Qd (Qo (Qp (Qq (Q7 (Qy #[]))))))]
def Wpu:MC:=.r0 Yvl
def Yvm:=[Qa (Qv 3) (Qg 0 (Qn 1)),Qa (Qv 4) (Qg 1 (Qn 3)),Qa (Qv 5) (Qf 1 false (Qn 4)),Qa (Qv 6) (Qe Qt QG (Qn 5) (Qo (Qp (Qq (Qr Qu 1))))),Qa (Qv 7) (Qh 64 [(Qn 6)]),Qa (Qv 2) (Qd (Qn 7))]
def Wpv:MC:=.r0 Yvm
def Yvn:MC:=.seq Wpu (.seq Wpv .ret)
attribute [go_sem] Yvl Yvm
theorem Wyg:KK QP 37 f37 [1] Yvn [(Q0 2)] 8:=by refine⟨func37,?_,?_,?_,?_⟩<;>kernel_rfl
theorem Wpw:Xaa QP 37=true:=by kernel_rfl
theorem Wpx (h:GI QP gp [(Q0 2)] res 8 Yvn args):Does QP gp 37 args res:=Wyg.i Wpw h
def Yvo:=[Qa (Qv 1) (QD (Qn 0)),Qa (Qv 2) (Qd (Qo (Qp (Qq (Q7 (Qy #[]))))))]
def Wpy:MC:=.r0 Yvo
def Yvp:=[Qa (Qv 3) (Qg 0 (Qn 1)),Qa (Qv 4) (Qg 1 (Qn 3)),Qa (Qv 5) (Qf 1 false (Qn 4)),Qa (Qv 6) (Qh 65 [(Qn 5)]),Qa (Qv 2) (Qd (Qn 6))]
def Wpz:MC:=.r0 Yvp
def Yvq:MC:=.seq Wpy (.seq Wpz .ret)
attribute [go_sem] Yvo Yvp
theorem Wyh:KK QP 38 f38 [1] Yvq [(Q0 2)] 7:=by refine⟨func38,?_,?_,?_,?_⟩<;>kernel_rfl
theorem Wp0:Xaa QP 38=true:=by kernel_rfl
theorem Wp1 (h:GI QP gp [(Q0 2)] res 7 Yvq args):Does QP gp 38 args res:=Wyh.i Wp0 h
def Yvr:=[Qa (Qv 1) (QD (Qn 0)),Qa (Qv 2) (Qd (Qo (Qp (Qq (Q7 (Qy #[]))))))]
def Wp2:MC:=.r0 Yvr
def Yvs:=[Qa (Qv 6) (Qg 0 (Qn 1)),Qa (Qv 7) (Qg 2 (Qn 6)),Qa (Qv 8) (Qf 1 false (Qn 7)),Qa (Qv 9) (Qh 66 [(Qn 8)]),Qa (Qv 5) (Qd (Qn 9)),Qa (Qv 10) (Qi (Qn 5) 0),Qa (Qv 11) (Qi (Qn 5) 1),Qa (Qv 3) (Qd (Qn 10)),Qa (Qv 4) (Qd (Qn 11))]
def Wp3:MC:=.r0 Yvs
def Yvt:=[Qa (Qv 12) (Qd (Qn 3)),Qa (Qv 2) (Qd (Qn 12))]
def Wp4:MC:=.r0 Yvt
def Yvu:MC:=.seq Wp2 (.seq Wp3 (.seq Wp4 .ret))
attribute [go_sem] Yvr Yvs Yvt
theorem Wyi:KK QP 39 f39 [1] Yvu [(Q0 2)] 13:=by refine⟨func39,?_,?_,?_,?_⟩<;>kernel_rfl
theorem Wp5:Xaa QP 39=true:=by kernel_rfl
theorem Wp6 (h:GI QP gp [(Q0 2)] res 13 Yvu args):Does QP gp 39 args res:=Wyi.i Wp5 h
def Yvv:=[Qa (Qv 2) (Qd (Qo (Qp (Qq (Q7 (Qy #[]))))))]
def Wp7:MC:=.r0 Yvv
def Yvw:=[Qa (Qv 3) (Qd (Qn 0)),Qa (Qv 4) (Qh 94 [(Qn 3)]),Qa (Qv 2) (Qd (Qn 4))]
def Wp8:MC:=.r0 Yvw
def Yvx:MC:=.seq Wp7 (.seq Wp8 .ret)
attribute [go_sem] Yvv Yvw
theorem Wyj:KK QP 64 f64 [] Yvx [(Q0 2)] 5:=by refine⟨func64,?_,?_,?_,?_⟩<;>kernel_rfl
theorem Wp9:Xaa QP 64=true:=by kernel_rfl
theorem Wqa (h:GI QP gp [(Q0 2)] res 5 Yvx args):Does QP gp 64 args res:=Wyj.i Wp9 h
def Yvy:=[Qa (Qv 2) (Qd (Qo (Qp (Qq (Q7 (Qy #[])))))),Qa (Qv 3) (Qd (Qo (Qp (Qq (Qr Qu 0)))))]
def Wqb:MC:=.r0 Yvy
def Yvz:=[Qa (Qv 10) (Qd (Qn 0)),Qa (Qv 11) (Qh 63 [(Qn 10)]),Qa (Qv 12) (QO (Qn 11))]
def Wqc:MC:=.r0 Yvz
def Yv0:=[Qa (Qv 2) (Qd (Qo (Qp (Qq (Q7 (Qy #[])))))),Qa (Qv 3) (Qd (Qo (Qp (Qq (Qr Qu 40)))))]
def Wqd:MC:=.r0 Yv0
def Yv1:=[Qa (Qv 4) (MOp.bldN 56 5)]
def Wqe:MC:=.r0 Yv1
def Yv2:=[Qa (Qv 13) (MOp.mkF (Go.Fn.func 96) [(Qn 4)]),Qa (Qv 5) (Qd (Qn 13))]
def Wqf:MC:=.r0 Yv2
def Yb1:=[Qa (Qv 14) (Qd (Qn 5)),Qa (Qv 15) (Q1 1 [(Qr Qx 0)] 1 [(0,(Qo (Qp (Qq (Qr Qx 34)))))]),Qa (Qv 16) (Q8 (Qn 14) [(Qn 15)])]
def Wai:MC:=.r0 Yb1
def Yb2:=[Qa (Qv 17) (Qd (Qn 0)),Qa (Qv 18) (MOp.rng (Qn 17))]
def Waj:MC:=.r0 Yb2
def Yb3:=[Qa (Qv 19) (MOp.nxt (Qn 18)),Qa (Qv 20) (Qi (Qn 19) 0)]
def Wak:MC:=.r0 Yb3
def Yb4:=[Qa (Qv 21) (Qi (Qn 19) 2),Qa (Qv 7) (Qd (Qn 21))]
def Wal:MC:=.r0 Yb4
def Yb5:=[Qa (Qv 23) (Qh 98 []),Qa (Qv 24) (Qd (Qn 7)),Qa (Qv 25) (MOp.lkp true (Qp (Qq (Qr Qx 0))) false [Qt] (Qn 23) (Qn 24)),Qa (Qv 22) (Qd (Qn 25)),Qa (Qv 26) (Qi (Qn 22) 0),Qa (Qv 27) (Qi (Qn 22) 1),Qa (Qv 8) (Qd (Qn 26)),Qa (Qv 9) (Qd (Qn 27))]
def Wam:MC:=.r0 Yb5
def Yb6:=[Qa (Qv 40) (Qd (Qn 9)),Qa (Qv 39) (Qd (Qn 40))]
def Wan:MC:=.r0 Yb6
def Yb7:=[Qa (Qv 41) (Qd (Qn 5)),Qa (Qv 42) (Qd (Qn 8)),Qa (Qv 43) (Q1 1 [(Qr Qx 0)] 2 [(0,(Qo (Qp (Qq (Qr Qx 92))))),(1,(Qn 42))]),Qa (Qv 44) (Q8 (Qn 41) [(Qn 43)])]
def Wao:MC:=.r0 Yb7
def Yb8:=[Qa (Qv 46) (Qd (Qn 7)),Qa (Qv 47) (Q1 1 [(Qr Qx 0)] 2 [(0,(Qo (Qp (Qq (Qr Qx 34))))),(1,(Qo (Qp (Qq (Qr Qx 92)))))]),Qa (Qv 48) (Qh 99 [(Qn 46),(Qn 47)]),Qa (Qv 45) (Qd (Qn 48))]
def Wap:MC:=.r0 Yb8
def Yb9:=[Qa (Qv 49) (Qd (Qn 5)),Qa (Qv 50) (Qd (Qn 7)),Qa (Qv 51) (Q1 1 [(Qr Qx 0)] 2 [(0,(Qo (Qp (Qq (Qr Qx 92))))),(1,(Qn 50))]),Qa (Qv 52) (Q8 (Qn 49) [(Qn 51)])]
def Waq:MC:=.r0 Yb9
def Yca:=[Qa (Qv 54) (Qd (Qn 7)),Qa (Qv 55) (Qh 100 [(Qn 54)]),Qa (Qv 53) (Qd (Qn 55))]
def War:MC:=.r0 Yca
def Ycb:=[Qa (Qv 56) (Qd (Qn 5)),Qa (Qv 57) (Qd (Qn 7)),Qa (Qv 58) (Q1 1 [(Qr Qx 0)] 1 [(0,(Qn 57))]),Qa (Qv 59) (Q8 (Qn 56) [(Qn 58)])]
def Was:MC:=.r0 Ycb
def Ycc:=[Qa (Qv 28) (Qd (Qn 5)),Qa (Qv 29) (Qd (Qn 7)),Qa (Qv 30) (Qe Qt Q5 (Qn 29) (Qo (Qp (Qq (Qr Q3 4))))),Qa (Qv 31) (QN (Qo (Qp (Qq (Q7 (Qy #[48,49,50,51,52,53,54,55,56,57,97,98,99,100,101,102]))))) (Qn 30)),Qa (Qv 32) (Q2 Qx (Qn 31)),Qa (Qv 33) (Qd (Qn 7)),Qa (Qv 34) (Qe Qt Q6 (Qn 33) (Qo (Qp (Qq (Qr Qx 15))))),Qa (Qv 35) (QN (Qo (Qp (Qq (Q7 (Qy #[48,49,50,51,52,53,54,55,56,57,97,98,99,100,101,102]))))) (Qn 34)),Qa (Qv 36) (Q2 Qx (Qn 35)),Qa (Qv 37) (Q1 1 [(Qr Qx 0)] 4 [(0,(Qo (Qp (Qq (Qr Qx 92))))),(1,(Qo (Qp (Qq (Qr Qx 120))))),(2,(Qn 32)),(3,(Qn 36))]),Qc (Qv 38) (Q8 (Qn 28) [(Qn 37)])]
def Wat:MC:=.reg true Ycc
def Wau:MC:=.cond (Qn 45) Waq (.seq War (.cond (Qn 53) Was Wat))
def Wav:MC:=.seq Wan (.cond (Qn 39) Wao (.seq Wap Wau))
def Waw:MC:=.seq Wak (.seq (.cond (Qn 20) .skip (QK 0)) (.blk 1 (.seq Wal (.seq Wam (.blk 2 Wav)))))
def Ycd:=[Qa (Qv 60) (Qd (Qn 5)),Qa (Qv 61) (Q1 1 [(Qr Qx 0)] 1 [(0,(Qo (Qp (Qq (Qr Qx 34)))))]),Qa (Qv 62) (Q8 (Qn 60) [(Qn 61)])]
def Wax:MC:=.r0 Ycd
def Yce:=[Qa (Qv 63) (Qh 28 [(Qn 4)]),Qa (Qv 2) (Qd (Qn 63)),Qa (Qv 3) (Qd (Qo (Qp (Qq (Qr Qu 0)))))]
def Way:MC:=.r0 Yce
def Waz:MC:=.seq (.seq Waj (.blk 0 (.loop Waw))) (.seq Wax (.seq Way .ret))
def Wa0:MC:=.seq Wqe (.seq Wqf (.seq Wai Waz))
def Ycf:MC:=.seq Wqb (.seq (.seq Wqc (.cond (Qn 12) (.seq Wqd .ret) .skip)) Wa0)
attribute [go_sem] Yvy Yvz Yv0 Yv1 Yv2 Yb1 Yb2 Yb3 Yb4 Yb5 Yb6 Yb7 Yb8 Yb9 Yca Ycb Ycc Ycd Yce
theorem Wyk:KK QP 66 f66 [] Ycf [(Q0 2),(Q0 3)] 64:=by refine⟨func66,?_,?_,?_,?_⟩<;>kernel_rfl
theorem Wqg:Xaa QP 66=true:=by kernel_rfl
theorem Wqh (h:GI QP gp [(Q0 2),(Q0 3)] res 64 Ycf args):Does QP gp 66 args res:=Wyk.i Wqg h
def Yv3:=[Qa (Qv 2) (Qd (Qo (Qp (Qq (Q7 (Qy #[]))))))]
def Wqi:MC:=.r0 Yv3
def Yv4:=[Qa (Qv 3) (Qd (Qn 0))]
def Wqj:MC:=.r0 Yv4
def Yv5:=[Qa (Qv 2) (Qd (Qo (Qp (Qq (Q7 (Qy #[116,114,117,101]))))))]
def Wqk:MC:=.r0 Yv5
def Yv6:=[Qa (Qv 2) (Qd (Qo (Qp (Qq (Q7 (Qy #[102,97,108,115,101]))))))]
def Wql:MC:=.r0 Yv6
def Ycg:MC:=.seq Wqi (.seq (.seq Wqj (.cond (Qn 3) (.seq Wqk .ret) .skip)) (.seq Wql .ret))
attribute [go_sem] Yv3 Yv4 Yv5 Yv6
theorem Wyl:KK QP 94 f94 [] Ycg [(Q0 2)] 4:=by refine⟨func94,?_,?_,?_,?_⟩<;>kernel_rfl
theorem Wqm:Xaa QP 94=true:=by kernel_rfl
theorem Wqn (h:GI QP gp [(Q0 2)] res 4 Ycg args):Does QP gp 94 args res:=Wyl.i Wqm h
def Yv7:=[Qa (Qv 5) (Qd (Qn 0)),Qa (Qv 6) (Qk Qt (Qn 5)),Qa (Qv 7) (Qd (Qo (Qp (Qq (Qr Qu 0)))))]
def Wqo:MC:=.r0 Yv7
def Yv8:=[Qa (Qv 8) (Qe Qt Q9 (Qn 7) (Qn 6))]
def Wqp:MC:=.r0 Yv8
def Yv9:=[Qa (Qv 9) (Qj 1 (Qn 5) (Qn 7)),Qa (Qv 10) (Qf 1 false (Qn 9)),Qa (Qv 4) (Qd (Qn 10))]
def Wqq:MC:=.r0 Yv9
def Ywa:=[Qa (Qv 11) (Qd (Qn 4)),Qa (Qv 12) (Qh 97 [(Qn 1),(Qn 11)])]
def Wqr:MC:=.r0 Ywa
def Ywb:=[Qa (Qv 13) (Qe Qt QH (Qn 7) (Qo (Qp (Qq (Qr Qu 1))))),Qa (Qv 7) (Qd (Qn 13))]
def Wqs:MC:=.r0 Ywb
def Wa1:MC:=.seq Wqp (.seq (.cond (Qn 8) .skip (QK 0)) (.seq (.blk 1 (.seq Wqq Wqr)) Wqs))
def Ych:MC:=.seq Wqo (.blk 0 (.loop Wa1))
attribute [go_sem] Yv7 Yv8 Yv9 Ywa Ywb
theorem Wym:KK QP 96 f96 [] Ych [] 14:=by refine⟨func96,?_,?_,?_,?_⟩<;>kernel_rfl
theorem Xn5:Xaa QP 96=true:=by kernel_rfl
theorem Wa2 (h:GT QP gp [] pre R 14 Ych args):Tri QP gp 96 args pre R:=Wym.t h
def Ywc:=[Qa (Qv 4) (Qd (Qo (Qp (Qq (Qr Qu 0))))),Qa (Qv 5) (Qd (Qo (Qp (Qq QJ))))]
def Wqt:MC:=.r0 Ywc
def Ywd:=[Qa (Qv 7) (Qd (Qn 0)),Qa (Qv 8) (Qh 58 [(Qn 7)])]
def Wqu:MC:=.r0 Ywd
def Ywe:=[Qa (Qv 9) (Qd (Qn 0)),Qa (Qv 10) (QC (Qn 9)),Qa (Qv 11) (Qg 1 (Qn 10)),Qa (Qv 12) (Qf 1 false (Qn 11)),Qa (Qv 13) (Qk Qt (Qn 12)),Qa (Qv 6) (Qd (Qn 13))]
def Wqv:MC:=.r0 Ywe
def Ywf:=[Qa (Qv 14) (Qd (Qn 0)),Qa (Qv 15) (Qd (Qn 0)),Qa (Qv 16) (QC (Qn 15)),Qa (Qv 17) (Qg 1 (Qn 16)),Qa (Qv 18) (Qf 1 false (Qn 17)),Qa (Qv 19) (Qd (Qn 1)),Qa (Qv 20) (Qh 136 [(Qn 18),(Qn 19)]),Qa (Qv 21) (QC (Qn 14)),Qa (Qv 22) (Qg 1 (Qn 21)),Qa none (Ql 1 (Qn 22) (Qn 20))]
def Wqw:MC:=.r0 Ywf
def Ywg:=[Qa (Qv 23) (Qd (Qn 0)),Qa (Qv 24) (QC (Qn 23)),Qa (Qv 25) (Qg 1 (Qn 24)),Qa (Qv 26) (Qf 1 false (Qn 25)),Qa (Qv 27) (Qk Qt (Qn 26)),Qa (Qv 28) (Qd (Qn 6)),Qa (Qv 29) (Qe Qt QR (Qn 27) (Qn 28)),Qa (Qv 4) (Qd (Qn 29)),Qa (Qv 5) (Qd (Qo (Qp (Qq QJ))))]
def Wqx:MC:=.r0 Ywg
def Wqy:MC:=.seq Wqu (.seq Wqv (.seq Wqw (.seq Wqx .ret)))
def Yci:MC:=.seq Wqt Wqy
attribute [go_sem] Ywc Ywd Ywe Ywf Ywg
theorem Wyn:KK QP 97 f97 [] Yci [(Q0 4),(Q0 5)] 30:=by refine⟨func97,?_,?_,?_,?_⟩<;>kernel_rfl
theorem Wqz:Xaa QP 97=true:=by kernel_rfl
theorem Wa3 (h:GT QP gp [(Q0 4),(Q0 5)] pre R 30 Yci args):Tri QP gp 97 args pre R:=Wyn.t h
def Ywh:=[Qa (Qv 0) (Qd (Qo (Qp (Qq (D.raw (Go.Value.map none))))))]
def Wq0:MC:=.r0 Ywh
def Ywi:=[Qa (Qv 1) MOp.mkM,Qa none (QI false [Qt] (Qn 1) (Qo (Qp (Qq (Qr Qx 10)))) (Qo (Qp (Qq (Qr Qx 110))))),Qa none (QI false [Qt] (Qn 1) (Qo (Qp (Qq (Qr Qx 9)))) (Qo (Qp (Qq (Qr Qx 116))))),Qa none (QI false [Qt] (Qn 1) (Qo (Qp (Qq (Qr Qx 13)))) (Qo (Qp (Qq (Qr Qx 114))))),Qa (Qv 2) (Qd (Qn 1)),Qa (Qv 0) (Qd (Qn 2))]
def Wq1:MC:=.r0 Ywi
def Ywj:MC:=.seq Wq0 (.seq Wq1 .ret)
attribute [go_sem] Ywh Ywi
theorem Wyo:KK QP 98 f98 [] Ywj [(Q0 0)] 3:=by refine⟨func98,?_,?_,?_,?_⟩<;>kernel_rfl
theorem Xx5:Xaa QP 98=true:=by kernel_rfl
theorem Wa4 (h:GT QP gp [(Q0 0)] pre R 3 Ywj args):Tri QP gp 98 args pre R:=Wyo.t h
def Ywk:=[Qa (Qv 4) (Qd (Qo (Qp (Qq (Qs false)))))]
def Wq2:MC:=.r0 Ywk
def Ywl:=[Qa (Qv 7) (Qd (Qn 1)),Qa (Qv 8) (Qk Qt (Qn 7)),Qa (Qv 9) (Qd (Qo (Qp (Qq (Qr Qu 0)))))]
def Wq3:MC:=.r0 Ywl
def Ywm:=[Qa (Qv 10) (Qe Qt Q9 (Qn 9) (Qn 8))]
def Wq4:MC:=.r0 Ywm
def Ywn:=[Qa (Qv 11) (Qj 1 (Qn 7) (Qn 9)),Qa (Qv 12) (Qf 1 false (Qn 11)),Qa (Qv 6) (Qd (Qn 12))]
def Wq5:MC:=.r0 Ywn
def Ywo:=[Qa (Qv 13) (Qd (Qn 0)),Qa (Qv 14) (Qd (Qn 6)),Qa (Qv 15) (Qe Qt QG (Qn 13) (Qn 14))]
def Wq6:MC:=.r0 Ywo
def Ywp:=[Qa (Qv 4) (Qd (Qo (Qp (Qq (Qs true)))))]
def Wq7:MC:=.r0 Ywp
def Ycj:=[Qa (Qv 16) (Qe Qt QH (Qn 9) (Qo (Qp (Qq (Qr Qu 1))))),Qa (Qv 9) (Qd (Qn 16))]
def Wa5:MC:=.r0 Ycj
def Wa6:MC:=.seq (.blk 1 (.seq Wq5 (.seq Wq6 (.cond (Qn 15) (.seq Wq7 .ret) .skip)))) Wa5
def Yck:=[Qa (Qv 4) (Qd (Qo (Qp (Qq (Qs false)))))]
def Wa7:MC:=.r0 Yck
def Wa8:MC:=.seq (.seq Wq3 (.blk 0 (.loop (.seq Wq4 (.seq (.cond (Qn 10) .skip (QK 0)) Wa6))))) (.seq Wa7 .ret)
def Ycl:MC:=.seq Wq2 Wa8
attribute [go_sem] Ywk Ywl Ywm Ywn Ywo Ywp Ycj Yck
theorem Wyp:KK QP 99 f99 [] Ycl [(Q0 4)] 17:=by refine⟨func99,?_,?_,?_,?_⟩<;>kernel_rfl
theorem Wq8:Xaa QP 99=true:=by kernel_rfl
theorem Wq9 (h:GI QP gp [(Q0 4)] res 17 Ycl args):Does QP gp 99 args res:=Wyp.i Wq8 h
def Ycm:=[Qa (Qv 2) (Qd (Qo (Qp (Qq (Qs false)))))]
def Wa9:MC:=.r0 Ycm
def Ycn:=[Qa (Qv 3) (Qd (Qn 0)),Qa (Qv 4) (Qe Qt QS (Qn 3) (Qo (Qp (Qq (Qr Qx 32))))),Qa (Qv 5) (Qd (Qn 4)),Qb 5 true (Qv 6),Qa (Qv 6) (Qd (Qn 0)),Qb 5 true (Qv 7),Qa (Qv 7) (Qe Qt QT (Qn 6) (Qo (Qp (Qq (Qr Qx 127))))),Qa (Qv 8) (Qm (Qn 5) (Qn 7) (Qo (Qp (Qq (Qs false))))),Qa (Qv 2) (Qd (Qn 8))]
def Wba:MC:=.r0 Ycn
def Yco:MC:=.seq Wa9 (.seq Wba .ret)
attribute [go_sem] Ycm Ycn
theorem Wra:KK QP 100 f100 [] Yco [(Q0 2)] 9:=by refine⟨func100,?_,?_,?_,?_⟩<;>kernel_rfl
theorem Wbb:Xaa QP 100=true:=by kernel_rfl
theorem Wbc (h:GI QP gp [(Q0 2)] res 9 Yco args):Does QP gp 100 args res:=Wra.i Wbb h
def Ycp:=[Qa (Qv 4) (Qd (Qo (Qp A.nil)))]
def Wbd:MC:=.r0 Ycp
def Ycq:=[Qa (Qv 5) (Qd (Qn 1)),Qa (Qv 6) (Q2 Qz (Qn 5)),Qa (Qv 7) (Qe Qt QA (Qn 6) (Qo (Qp (Qq (Qr Qz 127)))))]
def Wbe:MC:=.r0 Ycq
def Ycr:=[Qa (Qv 8) (Qd (Qn 0)),Qa (Qv 9) (Qd (Qn 1)),Qa (Qv 10) (Q2 Qw (Qn 9)),Qa (Qv 11) (Q1 1 [(Qr Qw 0)] 1 [(0,(Qn 10))]),Qa (Qv 12) (QE 5 1 1 (Qn 8) (Qn 11)),Qa (Qv 4) (Qd (Qn 12))]
def Wbf:MC:=.r0 Ycr
def Ycs:=[Qa (Qv 13) (Qd (Qn 0)),Qa (Qv 14) (Qd (Qn 1)),Qa (Qv 15) (Qh 164 [(Qn 13),(Qn 14)]),Qa (Qv 4) (Qd (Qn 15))]
def Wbg:MC:=.r0 Ycs
def Xx6:MC:=.seq Wbd (.seq (.seq Wbe (.cond (Qn 7) (.seq Wbf .ret) .skip)) (.seq Wbg .ret))
attribute [go_sem] Ycp Ycq Ycr Ycs
theorem Wrb:KK QP 136 f136 [] Xx6 [(Q0 4)] 16:=by refine⟨func136,?_,?_,?_,?_⟩<;>kernel_rfl
theorem Wyq:Xaa QP 136=true:=by kernel_rfl
theorem Yni (h:GT QP gp [(Q0 4)] pre R 16 Xx6 args):Tri QP gp 136 args pre R:=Wrb.t h
def Yct:=[Qa (Qv 4) (Qd (Qo (Qp A.nil)))]
def Wbh:MC:=.r0 Yct
def Ycu:=[Qa (Qv 6) (Qd (Qn 1)),Qa (Qv 7) (Q2 Qz (Qn 6)),Qa (Qv 5) (Qd (Qn 7))]
def Wbi:MC:=.r0 Ycu
def Ycv:=[Qa (Qv 12) (Qd (Qn 5)),Qa (Qv 13) (Qe Qt QA (Qn 12) (Qo (Qp (Qq (Qr Qz 2047))))),Qa (Qv 11) (Qd (Qn 13))]
def Wbj:MC:=.r0 Ycv
def Ycw:=[Qa (Qv 14) (Qd (Qn 0)),Qa (Qv 15) (Qd (Qn 1)),Qa (Qv 16) (Qe Qt Q5 (Qn 15) (Qo (Qp (Qq (Qr Q3 6))))),Qa (Qv 17) (Q2 Qw (Qn 16)),Qa (Qv 18) (Qe Qt Q4 (Qo (Qp (Qq (Qr Qw 192)))) (Qn 17)),Qa (Qv 19) (Qd (Qn 1)),Qa (Qv 20) (Q2 Qw (Qn 19)),Qa (Qv 21) (Qe Qt Q6 (Qn 20) (Qo (Qp (Qq (Qr Qw 63))))),Qa (Qv 22) (Qe Qt Q4 (Qo (Qp (Qq (Qr Qw 128)))) (Qn 21)),Qa (Qv 23) (Q1 1 [(Qr Qw 0)] 2 [(0,(Qn 18)),(1,(Qn 22))]),Qa (Qv 24) (QE 5 1 1 (Qn 14) (Qn 23)),Qa (Qv 4) (Qd (Qn 24))]
def Wbk:MC:=.r0 Ycw
def Ycx:=[Qa (Qv 26) (Qd (Qn 5)),Qa (Qv 27) (Qe Qt Q9 (Qn 26) (Qo (Qp (Qq (Qr Qz 55296))))),Qa (Qv 25) (Qd (Qn 27))]
def Wbl:MC:=.r0 Ycx
def Ycy:=[Qa (Qv 28) (Qd (Qn 5)),Qa (Qv 29) (Qe Qt Q9 (Qo (Qp (Qq (Qr Qz 57343)))) (Qn 28)),Qa (Qv 30) (Qd (Qn 29)),Qb 30 true (Qv 31),Qa (Qv 31) (Qd (Qn 5)),Qb 30 true (Qv 32),Qa (Qv 32) (Qe Qt QA (Qn 31) (Qo (Qp (Qq (Qr Qz 65535))))),Qa (Qv 33) (Qm (Qn 30) (Qn 32) (Qo (Qp (Qq (Qs false))))),Qa (Qv 25) (Qd (Qn 33))]
def Wbm:MC:=.r0 Ycy
def Xx7:=[Qa (Qv 34) (Qd (Qn 0)),Qa (Qv 35) (Qd (Qn 1)),Qa (Qv 36) (Qe Qt Q5 (Qn 35) (Qo (Qp (Qq (Qr Q3 12))))),Qa (Qv 37) (Q2 Qw (Qn 36)),Qa (Qv 38) (Qe Qt Q4 (Qo (Qp (Qq (Qr Qw 224)))) (Qn 37)),Qa (Qv 39) (Qd (Qn 1)),Qa (Qv 40) (Qe Qt Q5 (Qn 39) (Qo (Qp (Qq (Qr Q3 6))))),Qa (Qv 41) (Q2 Qw (Qn 40)),Qa (Qv 42) (Qe Qt Q6 (Qn 41) (Qo (Qp (Qq (Qr Qw 63))))),Qa (Qv 43) (Qe Qt Q4 (Qo (Qp (Qq (Qr Qw 128)))) (Qn 42)),Qa (Qv 44) (Qd (Qn 1)),Qa (Qv 45) (Q2 Qw (Qn 44)),Qa (Qv 46) (Qe Qt Q6 (Qn 45) (Qo (Qp (Qq (Qr Qw 63))))),Qa (Qv 47) (Qe Qt Q4 (Qo (Qp (Qq (Qr Qw 128)))) (Qn 46)),Qa (Qv 48) (Q1 1 [(Qr Qw 0)] 3 [(0,(Qn 38)),(1,(Qn 43)),(2,(Qn 47))]),Qa (Qv 49) (QE 5 1 1 (Qn 34) (Qn 48)),Qa (Qv 4) (Qd (Qn 49))]
def Ynj:MC:=.r0 Xx7
def Xx8:=[Qa (Qv 51) (Qd (Qn 5)),Qa (Qv 52) (Qe Qt QU (Qn 51) (Qo (Qp (Qq (Qr Qz 65535))))),Qa (Qv 53) (Qd (Qn 52)),Qb 53 true (Qv 54),Qa (Qv 54) (Qd (Qn 5)),Qb 53 true (Qv 55),Qa (Qv 55) (Qe Qt QA (Qn 54) (Qo (Qp (Qq (Qr Qz 1114111))))),Qa (Qv 56) (Qm (Qn 53) (Qn 55) (Qo (Qp (Qq (Qs false))))),Qa (Qv 50) (Qd (Qn 56))]
def Ynk:MC:=.r0 Xx8
def Xx9:=[Qa (Qv 57) (Qd (Qn 0)),Qa (Qv 58) (Qd (Qn 1)),Qa (Qv 59) (Qe Qt Q5 (Qn 58) (Qo (Qp (Qq (Qr Q3 18))))),Qa (Qv 60) (Q2 Qw (Qn 59)),Qa (Qv 61) (Qe Qt Q4 (Qo (Qp (Qq (Qr Qw 240)))) (Qn 60)),Qa (Qv 62) (Qd (Qn 1)),Qa (Qv 63) (Qe Qt Q5 (Qn 62) (Qo (Qp (Qq (Qr Q3 12))))),Qa (Qv 64) (Q2 Qw (Qn 63)),Qa (Qv 65) (Qe Qt Q6 (Qn 64) (Qo (Qp (Qq (Qr Qw 63))))),Qa (Qv 66) (Qe Qt Q4 (Qo (Qp (Qq (Qr Qw 128)))) (Qn 65)),Qa (Qv 67) (Qd (Qn 1)),Qa (Qv 68) (Qe Qt Q5 (Qn 67) (Qo (Qp (Qq (Qr Q3 6))))),Qa (Qv 69) (Q2 Qw (Qn 68)),Qa (Qv 70) (Qe Qt Q6 (Qn 69) (Qo (Qp (Qq (Qr Qw 63))))),Qa (Qv 71) (Qe Qt Q4 (Qo (Qp (Qq (Qr Qw 128)))) (Qn 70)),Qa (Qv 72) (Qd (Qn 1)),Qa (Qv 73) (Q2 Qw (Qn 72)),Qa (Qv 74) (Qe Qt Q6 (Qn 73) (Qo (Qp (Qq (Qr Qw 63))))),Qa (Qv 75) (Qe Qt Q4 (Qo (Qp (Qq (Qr Qw 128)))) (Qn 74)),Qa (Qv 76) (Q1 1 [(Qr Qw 0)] 4 [(0,(Qn 61)),(1,(Qn 66)),(2,(Qn 71)),(3,(Qn 75))]),Qa (Qv 77) (QE 5 1 1 (Qn 57) (Qn 76)),Qa (Qv 4) (Qd (Qn 77))]
def Ynl:MC:=.r0 Xx9
def Xya:=[Qa (Qv 8) (Qd (Qn 0)),Qa (Qv 9) (Q1 1 [(Qr Qw 0)] 3 [(0,(Qo (Qp (Qq (Qr Qw 239))))),(1,(Qo (Qp (Qq (Qr Qw 191))))),(2,(Qo (Qp (Qq (Qr Qw 189)))))]),Qa (Qv 10) (QE 5 1 1 (Qn 8) (Qn 9)),Qa (Qv 4) (Qd (Qn 10))]
def Ynm:MC:=.r0 Xya
def Ynn:MC:=.cond (Qn 25) (.seq Ynj .ret) (.seq Ynk (.cond (Qn 50) (.seq Ynl .ret) (.seq Ynm .ret)))
def Yno:MC:=.cond (Qn 11) (.seq Wbk .ret) (.seq (.seq Wbl (.cond (Qn 25) .skip Wbm)) Ynn)
def Xyb:MC:=.seq Wbh (.seq Wbi (.blk 0 (.seq Wbj Yno)))
attribute [go_sem] Yct Ycu Ycv Ycw Ycx Ycy Xx7 Xx8 Xx9 Xya
theorem Wrc:KK QP 164 f164 [] Xyb [(Q0 4)] 78:=by refine⟨func164,?_,?_,?_,?_⟩<;>kernel_rfl
theorem Wbn:Xaa QP 164=true:=by kernel_rfl
theorem Ynp (h:GT QP gp [(Q0 4)] pre R 78 Xyb args):Tri QP gp 164 args pre R:=Wrc.t h
end Go.Fw.L07
