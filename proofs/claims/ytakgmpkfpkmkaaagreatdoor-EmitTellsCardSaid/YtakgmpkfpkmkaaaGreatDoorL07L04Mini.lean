/- Small codes. -/
import Derived.Test.YtakgmpkfpkmkaaaGreatDoorFd
import Derived.Test.YtakgmpkfpkmkaaaGreatDoorProg
set_option linter.all false
namespace Go.Fw.L07
open Go Go.Fw
open Go.Proofs.Tryz renaming prog->QP
open Go.Proofs.Tryz (f100 f131 f132 f133 f136 f157 f158 f159 f164 f179 f19 f27 f36 f37 f38 f39 f64 f66 f89 f91 f94 f96 f97 f98 f99 func100 func131 func132 func133 func136 func157 func158 func159 func164 func179 func19 func27 func36 func37 func38 func39 func64 func66 func89 func91 func94 func96 func97 func98 func99)
open Go.Fw.MO renaming op->Qa,chk->Qb,opx->Qc
open Go.Fw.MOp renaming mv->Qd,bin->Qe,load->Qf,fad->Qg,call->Qh,ext->Qi,iad->Qj,len->Qk,store->Ql,pick->Qm,conv->Q2,bslice->Q3,callv->QF,ibox->QJ,nck->QL,app->QN,mkMv->QR,idxS->QS,strB->QT,not->QU,mupd->QV,slcS->QW,build->QY,alloc->QZ
open Go.Fw.Opd renaming t->Qn,c->Qo
open Go.Fw.V renaming one->Qp
open Go.Fw.A renaming d->Qq
open Go.Fw.D renaming int->Qr,bool->Qs,str->Q4,nilF->QK,nilI->QX
open Go.Fw.Leaf renaming i->Qt,s->QG
open Go.IntKind renaming i64->Qu,u8->Qw,i32->Qy,u32->Q6,u64->Q8
open Option renaming some->Qv
open _root_.ByteArray renaming mk->Qx
open Go.BinOp renaming add->Qz,eql->Q0,lss->Q5,rem->Q7,or->Q9,quo->QA,shr->QB,and->QC,geq->QD,leq->QE,sub->QH,neq->QI,gtr->QO
open Go.Fw.RV renaming t->Q1
open Go.Fw.MC renaming exit->QM
variable {gp:Heap} {args:List V} {res:V} {pre:List Ch} {R:V->List Ch->Prop}
def Y4b:=[Qa (Qv 1) (QJ (Qn 0)),Qa (Qv 2) (Qd (Qo (Qp (Qq (Q4 (Qx #[])))))),Qa (Qv 3) (Qd (Qo (Qp (Qq (Qr Qu 0)))))]
def W7h:MC:=.r0 Y4b
def Y4c:=[Qa (Qv 6) (Qf 3 true (Qn 1)),Qa (Qv 7) (Qh 35 [(Qn 6)]),Qa (Qv 8) (QU (Qn 7))]
def W7i:MC:=.r0 Y4c
def Y4d:=[Qa (Qv 2) (Qd (Qo (Qp (Qq (Q4 (Qx #[])))))),Qa (Qv 3) (Qd (Qo (Qp (Qq (Qr Qu 60)))))]
def W7j:MC:=.r0 Y4d
def Y4e:=[Qa (Qv 9) (Qf 3 true (Qn 1)),Qa (Qv 10) (QY [(Qr Qu 0),(Qr Qu 0),(Q4 (Qx #[]))] [(0,(3,(Qn 9)))]),Qa (Qv 4) (QZ [(Qr Qu 0),(Qr Qu 0),(Q4 (Qx #[]))]),Qa none (Ql 3 (Qn 4) (Qn 10))]
def W7k:MC:=.r0 Y4e
def Y4f:=[Qa (Qv 11) (Qf 3 true (Qn 4)),Qa (Qv 12) (QR (Go.Fn.func 36) (Qn 11)),Qa (Qv 13) (Qf 3 true (Qn 4)),Qa (Qv 14) (QR (Go.Fn.func 37) (Qn 13)),Qa (Qv 15) (Qf 3 true (Qn 4)),Qa (Qv 16) (QR (Go.Fn.func 38) (Qn 15)),Qa (Qv 17) (Qf 3 true (Qn 4)),Qa (Qv 18) (QR (Go.Fn.func 39) (Qn 17)),Qa (Qv 19) (QY [QK,QK,QK,QK] [(0,(1,(Qn 12))),(1,(1,(Qn 14))),(2,(1,(Qn 16))),(3,(1,(Qn 18)))]),Qa (Qv 5) (QZ [QK,QK,QK,QK]),Qa none (Ql 4 (Qn 5) (Qn 19))]
def W7l:MC:=.r0 Y4f
def Yga:=[Qa (Qv 20) (Qg 0 (Qn 1)),Qa (Qv 21) (Qf 1 false (Qn 20)),Qa (Qv 22) (MOp.iadA 4 1 (Qn 5) (Qn 21)),Qa (Qv 23) (Qf 1 false (Qn 22)),Qa (Qv 24) (QF (Qn 23) []),Qa (Qv 2) (Qd (Qn 24)),Qa (Qv 3) (Qd (Qo (Qp (Qq (Qr Qu 0)))))]
def Woe:MC:=.r0 Yga
def Wof:MC:=.seq (.seq W7i (.cond (Qn 8) (.seq W7j .ret) .skip)) (.seq W7k (.seq W7l (.seq Woe .ret)))
def Ygb:MC:=.seq W7h Wof
attribute [go_sem] Y4b Y4c Y4d Y4e Y4f Yga
theorem Jg0:KK QP 19 f19 [1] Ygb [(Q1 2),(Q1 3)] 25:=by refine⟨func19,?_,?_,?_,?_⟩<;>kernel_rfl
theorem W7m:Xaa QP 19=true:=by kernel_rfl
theorem W7n (h:GI QP gp [(Q1 2),(Q1 3)] res 25 Ygb args):Does QP gp 19 args res:=Jg0.i W7m h
def Y4g:=[Qa (Qv 4) (Qd (Qo (Qp (Qq (Qr Qu 0))))),Qa (Qv 5) (Qd (Qo (Qp (Qq QX))))]
def W7o:MC:=.r0 Y4g
def Y4h:=[Qa (Qv 6) (Qd (Qn 0)),Qa (Qv 7) (Qh 58 [(Qn 6)])]
def W7p:MC:=.r0 Y4h
def Y4i:=[Qa (Qv 8) (Qd (Qn 0)),Qa (Qv 9) (Qd (Qn 0)),Qa (Qv 10) (QL (Qn 9)),Qa (Qv 11) (Qg 1 (Qn 10)),Qa (Qv 12) (Qf 1 false (Qn 11)),Qa (Qv 13) (Qd (Qn 1)),Qa (Qv 14) (MOp.appS 5 (Qn 12) (Qn 13)),Qa (Qv 15) (QL (Qn 8)),Qa (Qv 16) (Qg 1 (Qn 15)),Qa none (Ql 1 (Qn 16) (Qn 14))]
def W7q:MC:=.r0 Y4i
def Y4j:=[Qa (Qv 17) (Qd (Qn 1)),Qa (Qv 18) (Qk QG (Qn 17)),Qa (Qv 4) (Qd (Qn 18)),Qa (Qv 5) (Qd (Qo (Qp (Qq QX))))]
def W7r:MC:=.r0 Y4j
def Y4k:MC:=.seq W7o (.seq W7p (.seq W7q (.seq W7r .ret)))
attribute [go_sem] Y4g Y4h Y4i Y4j
theorem Jg1:KK QP 27 f27 [] Y4k [(Q1 4),(Q1 5)] 19:=by refine⟨func27,?_,?_,?_,?_⟩<;>kernel_rfl
theorem W7s:Xaa QP 27=true:=by kernel_rfl
theorem Wog (h:GT QP gp [(Q1 4),(Q1 5)] pre R 19 Y4k args):Tri QP gp 27 args pre R:=Jg1.t h
-- f28: trC none
def Y4l:=[Qa (Qv 1) (QJ (Qn 0)),Qa (Qv 2) (Qd (Qo (Qp (Qq (Q4 (Qx #[]))))))]
def W7t:MC:=.r0 Y4l
def Y4m:=[Qa (Qv 2) (Qd (Qo (Qp (Qq (Q4 (Qx #[110,117,108,108]))))))]
def W7u:MC:=.r0 Y4m
def Y4n:MC:=.seq W7t (.seq W7u .ret)
attribute [go_sem] Y4l Y4m
theorem Jg2:KK QP 36 f36 [1] Y4n [(Q1 2)] 3:=by refine⟨func36,?_,?_,?_,?_⟩<;>kernel_rfl
theorem W7v:Xaa QP 36=true:=by kernel_rfl
theorem W7w (h:GI QP gp [(Q1 2)] res 3 Y4n args):Does QP gp 36 args res:=Jg2.i W7v h
def Y4o:=[Qa (Qv 1) (QJ (Qn 0)),Qa (Qv 2) (Qd (Qo (Qp (Qq (Q4 (Qx #[]))))))]
def W7x:MC:=.r0 Y4o
def Y4p:=[Qa (Qv 3) (Qg 0 (Qn 1)),Qa (Qv 4) (Qg 1 (Qn 3)),Qa (Qv 5) (Qf 1 false (Qn 4)),Qa (Qv 6) (Qe Qt Q0 (Qn 5) (Qo (Qp (Qq (Qr Qu 1))))),Qa (Qv 7) (Qh 64 [(Qn 6)]),Qa (Qv 2) (Qd (Qn 7))]
def W7y:MC:=.r0 Y4p
def Y4q:MC:=.seq W7x (.seq W7y .ret)
attribute [go_sem] Y4o Y4p
theorem Jg3:KK QP 37 f37 [1] Y4q [(Q1 2)] 8:=by refine⟨func37,?_,?_,?_,?_⟩<;>kernel_rfl
theorem W7z:Xaa QP 37=true:=by kernel_rfl
theorem W70 (h:GI QP gp [(Q1 2)] res 8 Y4q args):Does QP gp 37 args res:=Jg3.i W7z h
def Y4r:=[Qa (Qv 1) (QJ (Qn 0)),Qa (Qv 2) (Qd (Qo (Qp (Qq (Q4 (Qx #[]))))))]
def W71:MC:=.r0 Y4r
def Y4s:=[Qa (Qv 3) (Qg 0 (Qn 1)),Qa (Qv 4) (Qg 1 (Qn 3)),Qa (Qv 5) (Qf 1 false (Qn 4)),Qa (Qv 6) (Qh 65 [(Qn 5)]),Qa (Qv 2) (Qd (Qn 6))]
def W72:MC:=.r0 Y4s
def Y4t:MC:=.seq W71 (.seq W72 .ret)
attribute [go_sem] Y4r Y4s
theorem Jg4:KK QP 38 f38 [1] Y4t [(Q1 2)] 7:=by refine⟨func38,?_,?_,?_,?_⟩<;>kernel_rfl
theorem W73:Xaa QP 38=true:=by kernel_rfl
theorem W74 (h:GI QP gp [(Q1 2)] res 7 Y4t args):Does QP gp 38 args res:=Jg4.i W73 h
def Y4u:=[Qa (Qv 1) (QJ (Qn 0)),Qa (Qv 2) (Qd (Qo (Qp (Qq (Q4 (Qx #[]))))))]
def W75:MC:=.r0 Y4u
def Y4v:=[Qa (Qv 6) (Qg 0 (Qn 1)),Qa (Qv 7) (Qg 2 (Qn 6)),Qa (Qv 8) (Qf 1 false (Qn 7)),Qa (Qv 9) (Qh 66 [(Qn 8)]),Qa (Qv 5) (Qd (Qn 9)),Qa (Qv 10) (Qi (Qn 5) 0),Qa (Qv 11) (Qi (Qn 5) 1),Qa (Qv 3) (Qd (Qn 10)),Qa (Qv 4) (Qd (Qn 11))]
def W76:MC:=.r0 Y4v
def Y4w:=[Qa (Qv 12) (Qd (Qn 3)),Qa (Qv 2) (Qd (Qn 12))]
def W77:MC:=.r0 Y4w
def Y4x:MC:=.seq W75 (.seq W76 (.seq W77 .ret))
attribute [go_sem] Y4u Y4v Y4w
theorem Jg5:KK QP 39 f39 [1] Y4x [(Q1 2)] 13:=by refine⟨func39,?_,?_,?_,?_⟩<;>kernel_rfl
theorem W78:Xaa QP 39=true:=by kernel_rfl
theorem W79 (h:GI QP gp [(Q1 2)] res 13 Y4x args):Does QP gp 39 args res:=Jg5.i W78 h
def Y4y:=[Qa (Qv 2) (Qd (Qo (Qp (Qq (Q4 (Qx #[]))))))]
def W8a:MC:=.r0 Y4y
def Y4z:=[Qa (Qv 3) (Qd (Qn 0)),Qa (Qv 4) (Qh 94 [(Qn 3)]),Qa (Qv 2) (Qd (Qn 4))]
def W8b:MC:=.r0 Y4z
def Y40:MC:=.seq W8a (.seq W8b .ret)
attribute [go_sem] Y4y Y4z
theorem Jg6:KK QP 64 f64 [] Y40 [(Q1 2)] 5:=by refine⟨func64,?_,?_,?_,?_⟩<;>kernel_rfl
theorem W8c:Xaa QP 64=true:=by kernel_rfl
theorem W8d (h:GI QP gp [(Q1 2)] res 5 Y40 args):Does QP gp 64 args res:=Jg6.i W8c h
def Y41:=[Qa (Qv 2) (Qd (Qo (Qp (Qq (Q4 (Qx #[])))))),Qa (Qv 3) (Qd (Qo (Qp (Qq (Qr Qu 0)))))]
def W8e:MC:=.r0 Y41
def Y42:=[Qa (Qv 10) (Qd (Qn 0)),Qa (Qv 11) (Qh 63 [(Qn 10)]),Qa (Qv 12) (QU (Qn 11))]
def W8f:MC:=.r0 Y42
def Y43:=[Qa (Qv 2) (Qd (Qo (Qp (Qq (Q4 (Qx #[])))))),Qa (Qv 3) (Qd (Qo (Qp (Qq (Qr Qu 40)))))]
def W8g:MC:=.r0 Y43
def Y44:=[Qa (Qv 4) (MOp.bldN 56 5)]
def W8h:MC:=.r0 Y44
def Y45:=[Qa (Qv 13) (MOp.mkF (Go.Fn.func 96) [(Qn 4)]),Qa (Qv 5) (Qd (Qn 13))]
def W8i:MC:=.r0 Y45
def Ygc:=[Qa (Qv 14) (Qd (Qn 5)),Qa (Qv 15) (Q3 1 [(Qr Qy 0)] 1 [(0,(Qo (Qp (Qq (Qr Qy 34)))))]),Qa (Qv 16) (QF (Qn 14) [(Qn 15)])]
def Woh:MC:=.r0 Ygc
def Ygd:=[Qa (Qv 17) (Qd (Qn 0)),Qa (Qv 18) (MOp.rng (Qn 17))]
def Woi:MC:=.r0 Ygd
def Yge:=[Qa (Qv 19) (MOp.nxt (Qn 18)),Qa (Qv 20) (Qi (Qn 19) 0)]
def Woj:MC:=.r0 Yge
def Ygf:=[Qa (Qv 21) (Qi (Qn 19) 2),Qa (Qv 7) (Qd (Qn 21))]
def Wok:MC:=.r0 Ygf
def Ygg:=[Qa (Qv 23) (Qh 98 []),Qa (Qv 24) (Qd (Qn 7)),Qa (Qv 25) (MOp.lkp true (Qp (Qq (Qr Qy 0))) false [Qt] (Qn 23) (Qn 24)),Qa (Qv 22) (Qd (Qn 25)),Qa (Qv 26) (Qi (Qn 22) 0),Qa (Qv 27) (Qi (Qn 22) 1),Qa (Qv 8) (Qd (Qn 26)),Qa (Qv 9) (Qd (Qn 27))]
def Wol:MC:=.r0 Ygg
def Ygh:=[Qa (Qv 40) (Qd (Qn 9)),Qa (Qv 39) (Qd (Qn 40))]
def Wom:MC:=.r0 Ygh
def Ygi:=[Qa (Qv 41) (Qd (Qn 5)),Qa (Qv 42) (Qd (Qn 8)),Qa (Qv 43) (Q3 1 [(Qr Qy 0)] 2 [(0,(Qo (Qp (Qq (Qr Qy 92))))),(1,(Qn 42))]),Qa (Qv 44) (QF (Qn 41) [(Qn 43)])]
def Won:MC:=.r0 Ygi
def Ygj:=[Qa (Qv 46) (Qd (Qn 7)),Qa (Qv 47) (Q3 1 [(Qr Qy 0)] 2 [(0,(Qo (Qp (Qq (Qr Qy 34))))),(1,(Qo (Qp (Qq (Qr Qy 92)))))]),Qa (Qv 48) (Qh 99 [(Qn 46),(Qn 47)]),Qa (Qv 45) (Qd (Qn 48))]
def Woo:MC:=.r0 Ygj
def Ygk:=[Qa (Qv 49) (Qd (Qn 5)),Qa (Qv 50) (Qd (Qn 7)),Qa (Qv 51) (Q3 1 [(Qr Qy 0)] 2 [(0,(Qo (Qp (Qq (Qr Qy 92))))),(1,(Qn 50))]),Qa (Qv 52) (QF (Qn 49) [(Qn 51)])]
def Wop:MC:=.r0 Ygk
def Ygl:=[Qa (Qv 54) (Qd (Qn 7)),Qa (Qv 55) (Qh 100 [(Qn 54)]),Qa (Qv 53) (Qd (Qn 55))]
def Woq:MC:=.r0 Ygl
def Ygm:=[Qa (Qv 56) (Qd (Qn 5)),Qa (Qv 57) (Qd (Qn 7)),Qa (Qv 58) (Q3 1 [(Qr Qy 0)] 1 [(0,(Qn 57))]),Qa (Qv 59) (QF (Qn 56) [(Qn 58)])]
def Wor:MC:=.r0 Ygm
def Ygn:=[Qa (Qv 28) (Qd (Qn 5)),Qa (Qv 29) (Qd (Qn 7)),Qa (Qv 30) (Qe Qt QB (Qn 29) (Qo (Qp (Qq (Qr Q8 4))))),Qa (Qv 31) (QS (Qo (Qp (Qq (Q4 (Qx #[48,49,50,51,52,53,54,55,56,57,97,98,99,100,101,102]))))) (Qn 30)),Qa (Qv 32) (Q2 Qy (Qn 31)),Qa (Qv 33) (Qd (Qn 7)),Qa (Qv 34) (Qe Qt QC (Qn 33) (Qo (Qp (Qq (Qr Qy 15))))),Qa (Qv 35) (QS (Qo (Qp (Qq (Q4 (Qx #[48,49,50,51,52,53,54,55,56,57,97,98,99,100,101,102]))))) (Qn 34)),Qa (Qv 36) (Q2 Qy (Qn 35)),Qa (Qv 37) (Q3 1 [(Qr Qy 0)] 4 [(0,(Qo (Qp (Qq (Qr Qy 92))))),(1,(Qo (Qp (Qq (Qr Qy 120))))),(2,(Qn 32)),(3,(Qn 36))]),Qc (Qv 38) (QF (Qn 28) [(Qn 37)])]
def Wos:MC:=.reg true Ygn
def Wot:MC:=.cond (Qn 45) Wop (.seq Woq (.cond (Qn 53) Wor Wos))
def Wou:MC:=.seq Wom (.cond (Qn 39) Won (.seq Woo Wot))
def Wov:MC:=.seq Woj (.seq (.cond (Qn 20) .skip (QM 0)) (.blk 1 (.seq Wok (.seq Wol (.blk 2 Wou)))))
def Ygo:=[Qa (Qv 60) (Qd (Qn 5)),Qa (Qv 61) (Q3 1 [(Qr Qy 0)] 1 [(0,(Qo (Qp (Qq (Qr Qy 34)))))]),Qa (Qv 62) (QF (Qn 60) [(Qn 61)])]
def Wow:MC:=.r0 Ygo
def Ygp:=[Qa (Qv 63) (Qh 28 [(Qn 4)]),Qa (Qv 2) (Qd (Qn 63)),Qa (Qv 3) (Qd (Qo (Qp (Qq (Qr Qu 0)))))]
def Wox:MC:=.r0 Ygp
def Woy:MC:=.seq (.seq Woi (.blk 0 (.loop Wov))) (.seq Wow (.seq Wox .ret))
def Woz:MC:=.seq W8h (.seq W8i (.seq Woh Woy))
def Ygq:MC:=.seq W8e (.seq (.seq W8f (.cond (Qn 12) (.seq W8g .ret) .skip)) Woz)
attribute [go_sem] Y41 Y42 Y43 Y44 Y45 Ygc Ygd Yge Ygf Ygg Ygh Ygi Ygj Ygk Ygl Ygm Ygn Ygo Ygp
theorem Jg7:KK QP 66 f66 [] Ygq [(Q1 2),(Q1 3)] 64:=by refine⟨func66,?_,?_,?_,?_⟩<;>kernel_rfl
theorem W8j:Xaa QP 66=true:=by kernel_rfl
theorem W8k (h:GI QP gp [(Q1 2),(Q1 3)] res 64 Ygq args):Does QP gp 66 args res:=Jg7.i W8j h
def Y46:=[Qa (Qv 1) (QJ (Qn 0)),Qa (Qv 2) (Qd (Qo (Qp (Qq (Qs false)))))]
def W8l:MC:=.r0 Y46
def Y47:=[Qa (Qv 3) (Qg 0 (Qn 1)),Qa (Qv 4) (Qf 1 false (Qn 3))]
def W8m:MC:=.r0 Y47
def Y48:=[Qa (Qv 6) (Qe Qt Q0 (Qn 4) (Qo (Qp (Qq (Qr Qu 0))))),Qa (Qv 5) (Qd (Qn 6))]
def W8n:MC:=.r0 Y48
def Y49:=[Qa (Qv 7) (Qg 1 (Qn 1)),Qa (Qv 8) (Qf 1 false (Qn 7)),Qa (Qv 9) (Qe Qt Q0 (Qn 8) (Qo (Qp (Qq (Qr Qu 0))))),Qa (Qv 10) (Qd (Qn 9)),Qb 10 true (Qv 11),Qa (Qv 11) (Qg 2 (Qn 1)),Qb 10 true (Qv 12),Qa (Qv 12) (Qf 1 false (Qn 11)),Qb 10 true (Qv 13),Qa (Qv 13) (Qe QG Q0 (Qn 12) (Qo (Qp (Qq (Q4 (Qx #[])))))),Qa (Qv 14) (Qm (Qn 10) (Qn 13) (Qo (Qp (Qq (Qs false))))),Qa (Qv 2) (Qd (Qn 14))]
def W8o:MC:=.r0 Y49
def Y5a:=[Qa (Qv 16) (Qe Qt Q0 (Qn 4) (Qo (Qp (Qq (Qr Qu 1))))),Qa (Qv 15) (Qd (Qn 16))]
def W8p:MC:=.r0 Y5a
def Y5b:=[Qa (Qv 17) (Qg 1 (Qn 1)),Qa (Qv 18) (Qf 1 false (Qn 17)),Qa (Qv 19) (Qe Qt Q0 (Qn 18) (Qo (Qp (Qq (Qr Qu 0))))),Qa (Qv 20) (Qd (Qn 19)),Qb 20 false (Qv 21),Qa (Qv 21) (Qg 1 (Qn 1)),Qb 20 false (Qv 22),Qa (Qv 22) (Qf 1 false (Qn 21)),Qb 20 false (Qv 23),Qa (Qv 23) (Qe Qt Q0 (Qn 22) (Qo (Qp (Qq (Qr Qu 1))))),Qa (Qv 24) (Qm (Qn 20) (Qo (Qp (Qq (Qs true)))) (Qn 23)),Qa (Qv 25) (Qd (Qn 24)),Qb 25 true (Qv 26),Qa (Qv 26) (Qg 2 (Qn 1)),Qb 25 true (Qv 27),Qa (Qv 27) (Qf 1 false (Qn 26)),Qb 25 true (Qv 28),Qa (Qv 28) (Qe QG Q0 (Qn 27) (Qo (Qp (Qq (Q4 (Qx #[])))))),Qa (Qv 29) (Qm (Qn 25) (Qn 28) (Qo (Qp (Qq (Qs false))))),Qa (Qv 2) (Qd (Qn 29))]
def W8q:MC:=.r0 Y5b
def Ygr:=[Qa (Qv 31) (Qe Qt Q0 (Qn 4) (Qo (Qp (Qq (Qr Qu 2))))),Qa (Qv 30) (Qd (Qn 31))]
def Wo0:MC:=.r0 Ygr
def Ygs:=[Qa (Qv 32) (Qg 1 (Qn 1)),Qa (Qv 33) (Qf 1 false (Qn 32)),Qa (Qv 34) (Qe Qt QD (Qn 33) (Qo (Qp (Qq (Qr Qu (-999999999999999)))))),Qa (Qv 35) (Qd (Qn 34)),Qb 35 true (Qv 36),Qa (Qv 36) (Qg 1 (Qn 1)),Qb 35 true (Qv 37),Qa (Qv 37) (Qf 1 false (Qn 36)),Qb 35 true (Qv 38),Qa (Qv 38) (Qe Qt QE (Qn 37) (Qo (Qp (Qq (Qr Qu 999999999999999))))),Qa (Qv 39) (Qm (Qn 35) (Qn 38) (Qo (Qp (Qq (Qs false))))),Qa (Qv 40) (Qd (Qn 39)),Qb 40 true (Qv 41),Qa (Qv 41) (Qg 2 (Qn 1)),Qb 40 true (Qv 42),Qa (Qv 42) (Qf 1 false (Qn 41)),Qb 40 true (Qv 43),Qa (Qv 43) (Qe QG Q0 (Qn 42) (Qo (Qp (Qq (Q4 (Qx #[])))))),Qa (Qv 44) (Qm (Qn 40) (Qn 43) (Qo (Qp (Qq (Qs false))))),Qa (Qv 2) (Qd (Qn 44))]
def Wo1:MC:=.r0 Ygs
def Ygt:=[Qa (Qv 46) (Qe Qt Q0 (Qn 4) (Qo (Qp (Qq (Qr Qu 3))))),Qa (Qv 45) (Qd (Qn 46))]
def Wo2:MC:=.r0 Ygt
def Ygu:=[Qa (Qv 47) (Qg 1 (Qn 1)),Qa (Qv 48) (Qf 1 false (Qn 47)),Qa (Qv 49) (Qe Qt Q0 (Qn 48) (Qo (Qp (Qq (Qr Qu 0))))),Qa (Qv 50) (Qd (Qn 49)),Qb 50 true (Qv 51),Qa (Qv 51) (Qg 2 (Qn 1)),Qb 50 true (Qv 52),Qa (Qv 52) (Qf 1 false (Qn 51)),Qb 50 true (Qv 53),Qa (Qv 53) (Qh 131 [(Qn 52)]),Qa (Qv 54) (Qm (Qn 50) (Qn 53) (Qo (Qp (Qq (Qs false))))),Qa (Qv 2) (Qd (Qn 54))]
def Wo3:MC:=.r0 Ygu
def Wo4:MC:=.seq Wo0 (.cond (Qn 30) (.seq Wo1 .ret) (.seq Wo2 (.cond (Qn 45) (.seq Wo3 .ret) .skip)))
def Wo5:MC:=.cond (Qn 5) (.seq W8o .ret) (.seq W8p (.cond (Qn 15) (.seq W8q .ret) Wo4))
def Ygv:=[Qa (Qv 2) (Qd (Qo (Qp (Qq (Qs false)))))]
def Wo6:MC:=.r0 Ygv
def Wo7:MC:=.seq (.seq W8m (.blk 0 (.seq W8n Wo5))) (.seq Wo6 .ret)
def Ygw:MC:=.seq W8l Wo7
attribute [go_sem] Y46 Y47 Y48 Y49 Y5a Y5b Ygr Ygs Ygt Ygu Ygv
theorem Jg8:KK QP 89 f89 [1] Ygw [(Q1 2)] 55:=by refine⟨func89,?_,?_,?_,?_⟩<;>kernel_rfl
theorem W8r:Xaa QP 89=true:=by kernel_rfl
theorem W8s (h:GI QP gp [(Q1 2)] res 55 Ygw args):Does QP gp 89 args res:=Jg8.i W8r h
def Y5c:=[Qa (Qv 2) (Qd (Qo (Qp (Qq (Q4 (Qx #[])))))),Qa (Qv 3) (Qd (Qo (Qp (Qq (Qr Qu 0)))))]
def W8t:MC:=.r0 Y5c
def Y5d:=[Qa (Qv 9) (Qd (Qn 0)),Qa (Qv 10) (Qh 132 [(Qn 9)]),Qa (Qv 8) (Qd (Qn 10)),Qa (Qv 11) (Qi (Qn 8) 0),Qa (Qv 12) (Qi (Qn 8) 1),Qa (Qv 4) (Qd (Qn 11)),Qa (Qv 5) (Qd (Qn 12))]
def W8u:MC:=.r0 Y5d
def Y5e:=[Qa (Qv 13) (Qd (Qn 5)),Qa (Qv 14) (Qe Qt QI (Qn 13) (Qo (Qp (Qq (Qr Qu 0)))))]
def W8v:MC:=.r0 Y5e
def Y5f:=[Qa (Qv 15) (Qd (Qn 5)),Qa (Qv 2) (Qd (Qo (Qp (Qq (Q4 (Qx #[])))))),Qa (Qv 3) (Qd (Qn 15))]
def W8w:MC:=.r0 Y5f
def Y5g:=[Qa (Qv 6) (Qd (Qo (Qp (Qq (Q4 (Qx #[34]))))))]
def W8x:MC:=.r0 Y5g
def Ygx:=[Qa (Qv 7) (Qd (Qo (Qp (Qq (Qr Qu 0)))))]
def Wo8:MC:=.r0 Ygx
def Ygy:=[Qa (Qv 16) (Qd (Qn 7)),Qa (Qv 17) (Qd (Qn 4)),Qa (Qv 18) (Qk Qt (Qn 17)),Qa (Qv 19) (Qe Qt Q5 (Qn 16) (Qn 18))]
def Wo9:MC:=.r0 Ygy
def Ygz:=[Qa (Qv 22) (Qd (Qn 6)),Qa (Qv 23) (Qd (Qn 4)),Qa (Qv 24) (Qd (Qn 7)),Qa (Qv 25) (Qj 1 (Qn 23) (Qn 24)),Qa (Qv 26) (Qf 1 false (Qn 25)),Qa (Qv 27) (Qh 133 [(Qn 26)]),Qa (Qv 28) (Qe QG Qz (Qn 22) (Qn 27)),Qa (Qv 6) (Qd (Qn 28))]
def Wpa:MC:=.r0 Ygz
def Yg0:=[Qa (Qv 20) (Qd (Qn 7)),Qa (Qv 21) (Qe Qt Qz (Qn 20) (Qo (Qp (Qq (Qr Qu 1))))),Qa (Qv 7) (Qd (Qn 21))]
def Wpb:MC:=.r0 Yg0
def Wpc:MC:=.seq Wo8 (.blk 0 (.loop (.seq (.seq Wo9 (.cond (Qn 19) .skip (QM 0))) (.seq (.blk 1 Wpa) Wpb))))
def Yg1:=[Qa (Qv 29) (Qd (Qn 6)),Qa (Qv 30) (Qe QG Qz (Qn 29) (Qo (Qp (Qq (Q4 (Qx #[34])))))),Qa (Qv 2) (Qd (Qn 30)),Qa (Qv 3) (Qd (Qo (Qp (Qq (Qr Qu 0)))))]
def Wpd:MC:=.r0 Yg1
def Wpe:MC:=.seq (.seq W8v (.cond (Qn 14) (.seq W8w .ret) .skip)) (.seq W8x (.seq Wpc (.seq Wpd .ret)))
def Yg2:MC:=.seq W8t (.seq W8u Wpe)
attribute [go_sem] Y5c Y5d Y5e Y5f Y5g Ygx Ygy Ygz Yg0 Yg1
theorem Jg9:KK QP 91 f91 [] Yg2 [(Q1 2),(Q1 3)] 31:=by refine⟨func91,?_,?_,?_,?_⟩<;>kernel_rfl
theorem W8y:Xaa QP 91=true:=by kernel_rfl
theorem W8z (h:GI QP gp [(Q1 2),(Q1 3)] res 31 Yg2 args):Does QP gp 91 args res:=Jg9.i W8y h
def Y5h:=[Qa (Qv 2) (Qd (Qo (Qp (Qq (Q4 (Qx #[]))))))]
def W80:MC:=.r0 Y5h
def Y5i:=[Qa (Qv 3) (Qd (Qn 0))]
def W81:MC:=.r0 Y5i
def Y5j:=[Qa (Qv 2) (Qd (Qo (Qp (Qq (Q4 (Qx #[116,114,117,101]))))))]
def W82:MC:=.r0 Y5j
def Y5k:=[Qa (Qv 2) (Qd (Qo (Qp (Qq (Q4 (Qx #[102,97,108,115,101]))))))]
def W83:MC:=.r0 Y5k
def Yg3:MC:=.seq W80 (.seq (.seq W81 (.cond (Qn 3) (.seq W82 .ret) .skip)) (.seq W83 .ret))
attribute [go_sem] Y5h Y5i Y5j Y5k
theorem Jha:KK QP 94 f94 [] Yg3 [(Q1 2)] 4:=by refine⟨func94,?_,?_,?_,?_⟩<;>kernel_rfl
theorem W84:Xaa QP 94=true:=by kernel_rfl
theorem W85 (h:GI QP gp [(Q1 2)] res 4 Yg3 args):Does QP gp 94 args res:=Jha.i W84 h
def Y5l:=[Qa (Qv 5) (Qd (Qn 0)),Qa (Qv 6) (Qk Qt (Qn 5)),Qa (Qv 7) (Qd (Qo (Qp (Qq (Qr Qu 0)))))]
def W86:MC:=.r0 Y5l
def Y5m:=[Qa (Qv 8) (Qe Qt Q5 (Qn 7) (Qn 6))]
def W87:MC:=.r0 Y5m
def Y5n:=[Qa (Qv 9) (Qj 1 (Qn 5) (Qn 7)),Qa (Qv 10) (Qf 1 false (Qn 9)),Qa (Qv 4) (Qd (Qn 10))]
def W88:MC:=.r0 Y5n
def Y5o:=[Qa (Qv 11) (Qd (Qn 4)),Qa (Qv 12) (Qh 97 [(Qn 1),(Qn 11)])]
def W89:MC:=.r0 Y5o
def Y5p:=[Qa (Qv 13) (Qe Qt Qz (Qn 7) (Qo (Qp (Qq (Qr Qu 1))))),Qa (Qv 7) (Qd (Qn 13))]
def W9a:MC:=.r0 Y5p
def Wpf:MC:=.seq W87 (.seq (.cond (Qn 8) .skip (QM 0)) (.seq (.blk 1 (.seq W88 W89)) W9a))
def Yg4:MC:=.seq W86 (.blk 0 (.loop Wpf))
attribute [go_sem] Y5l Y5m Y5n Y5o Y5p
theorem Jhb:KK QP 96 f96 [] Yg4 [] 14:=by refine⟨func96,?_,?_,?_,?_⟩<;>kernel_rfl
theorem Xnl:Xaa QP 96=true:=by kernel_rfl
theorem Wpg (h:GT QP gp [] pre R 14 Yg4 args):Tri QP gp 96 args pre R:=Jhb.t h
def Y5q:=[Qa (Qv 4) (Qd (Qo (Qp (Qq (Qr Qu 0))))),Qa (Qv 5) (Qd (Qo (Qp (Qq QX))))]
def W9b:MC:=.r0 Y5q
def Y5r:=[Qa (Qv 7) (Qd (Qn 0)),Qa (Qv 8) (Qh 58 [(Qn 7)])]
def W9c:MC:=.r0 Y5r
def Y5s:=[Qa (Qv 9) (Qd (Qn 0)),Qa (Qv 10) (QL (Qn 9)),Qa (Qv 11) (Qg 1 (Qn 10)),Qa (Qv 12) (Qf 1 false (Qn 11)),Qa (Qv 13) (Qk Qt (Qn 12)),Qa (Qv 6) (Qd (Qn 13))]
def W9d:MC:=.r0 Y5s
def Y5t:=[Qa (Qv 14) (Qd (Qn 0)),Qa (Qv 15) (Qd (Qn 0)),Qa (Qv 16) (QL (Qn 15)),Qa (Qv 17) (Qg 1 (Qn 16)),Qa (Qv 18) (Qf 1 false (Qn 17)),Qa (Qv 19) (Qd (Qn 1)),Qa (Qv 20) (Qh 136 [(Qn 18),(Qn 19)]),Qa (Qv 21) (QL (Qn 14)),Qa (Qv 22) (Qg 1 (Qn 21)),Qa none (Ql 1 (Qn 22) (Qn 20))]
def W9e:MC:=.r0 Y5t
def Y5u:=[Qa (Qv 23) (Qd (Qn 0)),Qa (Qv 24) (QL (Qn 23)),Qa (Qv 25) (Qg 1 (Qn 24)),Qa (Qv 26) (Qf 1 false (Qn 25)),Qa (Qv 27) (Qk Qt (Qn 26)),Qa (Qv 28) (Qd (Qn 6)),Qa (Qv 29) (Qe Qt QH (Qn 27) (Qn 28)),Qa (Qv 4) (Qd (Qn 29)),Qa (Qv 5) (Qd (Qo (Qp (Qq QX))))]
def W9f:MC:=.r0 Y5u
def W9g:MC:=.seq W9c (.seq W9d (.seq W9e (.seq W9f .ret)))
def Yg5:MC:=.seq W9b W9g
attribute [go_sem] Y5q Y5r Y5s Y5t Y5u
theorem Jhc:KK QP 97 f97 [] Yg5 [(Q1 4),(Q1 5)] 30:=by refine⟨func97,?_,?_,?_,?_⟩<;>kernel_rfl
theorem W9h:Xaa QP 97=true:=by kernel_rfl
theorem Wph (h:GT QP gp [(Q1 4),(Q1 5)] pre R 30 Yg5 args):Tri QP gp 97 args pre R:=Jhc.t h
def Y5v:=[Qa (Qv 0) (Qd (Qo (Qp (Qq (D.raw (Go.Value.map none))))))]
def W9i:MC:=.r0 Y5v
def Y5w:=[Qa (Qv 1) MOp.mkM,Qa none (QV false [Qt] (Qn 1) (Qo (Qp (Qq (Qr Qy 10)))) (Qo (Qp (Qq (Qr Qy 110))))),Qa none (QV false [Qt] (Qn 1) (Qo (Qp (Qq (Qr Qy 9)))) (Qo (Qp (Qq (Qr Qy 116))))),Qa none (QV false [Qt] (Qn 1) (Qo (Qp (Qq (Qr Qy 13)))) (Qo (Qp (Qq (Qr Qy 114))))),Qa (Qv 2) (Qd (Qn 1)),Qa (Qv 0) (Qd (Qn 2))]
def W9j:MC:=.r0 Y5w
def Y5x:MC:=.seq W9i (.seq W9j .ret)
attribute [go_sem] Y5v Y5w
theorem Jhd:KK QP 98 f98 [] Y5x [(Q1 0)] 3:=by refine⟨func98,?_,?_,?_,?_⟩<;>kernel_rfl
theorem Xy8:Xaa QP 98=true:=by kernel_rfl
theorem Wpi (h:GT QP gp [(Q1 0)] pre R 3 Y5x args):Tri QP gp 98 args pre R:=Jhd.t h
def Y5y:=[Qa (Qv 4) (Qd (Qo (Qp (Qq (Qs false)))))]
def W9k:MC:=.r0 Y5y
def Y5z:=[Qa (Qv 7) (Qd (Qn 1)),Qa (Qv 8) (Qk Qt (Qn 7)),Qa (Qv 9) (Qd (Qo (Qp (Qq (Qr Qu 0)))))]
def W9l:MC:=.r0 Y5z
def Y50:=[Qa (Qv 10) (Qe Qt Q5 (Qn 9) (Qn 8))]
def W9m:MC:=.r0 Y50
def Y51:=[Qa (Qv 11) (Qj 1 (Qn 7) (Qn 9)),Qa (Qv 12) (Qf 1 false (Qn 11)),Qa (Qv 6) (Qd (Qn 12))]
def W9n:MC:=.r0 Y51
def Y52:=[Qa (Qv 13) (Qd (Qn 0)),Qa (Qv 14) (Qd (Qn 6)),Qa (Qv 15) (Qe Qt Q0 (Qn 13) (Qn 14))]
def W9o:MC:=.r0 Y52
def Y53:=[Qa (Qv 4) (Qd (Qo (Qp (Qq (Qs true)))))]
def W9p:MC:=.r0 Y53
def Yg6:=[Qa (Qv 16) (Qe Qt Qz (Qn 9) (Qo (Qp (Qq (Qr Qu 1))))),Qa (Qv 9) (Qd (Qn 16))]
def Wpj:MC:=.r0 Yg6
def Wpk:MC:=.seq (.blk 1 (.seq W9n (.seq W9o (.cond (Qn 15) (.seq W9p .ret) .skip)))) Wpj
def Yg7:=[Qa (Qv 4) (Qd (Qo (Qp (Qq (Qs false)))))]
def Wpl:MC:=.r0 Yg7
def Wpm:MC:=.seq (.seq W9l (.blk 0 (.loop (.seq W9m (.seq (.cond (Qn 10) .skip (QM 0)) Wpk))))) (.seq Wpl .ret)
def Yg8:MC:=.seq W9k Wpm
attribute [go_sem] Y5y Y5z Y50 Y51 Y52 Y53 Yg6 Yg7
theorem Jhe:KK QP 99 f99 [] Yg8 [(Q1 4)] 17:=by refine⟨func99,?_,?_,?_,?_⟩<;>kernel_rfl
theorem W9q:Xaa QP 99=true:=by kernel_rfl
theorem W9r (h:GI QP gp [(Q1 4)] res 17 Yg8 args):Does QP gp 99 args res:=Jhe.i W9q h
def Yg9:=[Qa (Qv 2) (Qd (Qo (Qp (Qq (Qs false)))))]
def Wpn:MC:=.r0 Yg9
def Yha:=[Qa (Qv 3) (Qd (Qn 0)),Qa (Qv 4) (Qe Qt QD (Qn 3) (Qo (Qp (Qq (Qr Qy 32))))),Qa (Qv 5) (Qd (Qn 4)),Qb 5 true (Qv 6),Qa (Qv 6) (Qd (Qn 0)),Qb 5 true (Qv 7),Qa (Qv 7) (Qe Qt QI (Qn 6) (Qo (Qp (Qq (Qr Qy 127))))),Qa (Qv 8) (Qm (Qn 5) (Qn 7) (Qo (Qp (Qq (Qs false))))),Qa (Qv 2) (Qd (Qn 8))]
def Wpo:MC:=.r0 Yha
def Yhb:MC:=.seq Wpn (.seq Wpo .ret)
attribute [go_sem] Yg9 Yha
theorem W9s:KK QP 100 f100 [] Yhb [(Q1 2)] 9:=by refine⟨func100,?_,?_,?_,?_⟩<;>kernel_rfl
theorem Wpp:Xaa QP 100=true:=by kernel_rfl
theorem Wpq (h:GI QP gp [(Q1 2)] res 9 Yhb args):Does QP gp 100 args res:=W9s.i Wpp h
def Yhc:=[Qa (Qv 2) (Qd (Qo (Qp (Qq (Qs false)))))]
def Wpr:MC:=.r0 Yhc
def Yhd:=[Qa (Qv 6) (Qd (Qn 0)),Qa (Qv 7) (Qh 132 [(Qn 6)]),Qa (Qv 5) (Qd (Qn 7)),Qa (Qv 8) (Qi (Qn 5) 0),Qa (Qv 9) (Qi (Qn 5) 1),Qa (Qv 3) (Qd (Qn 8)),Qa (Qv 4) (Qd (Qn 9))]
def Wps:MC:=.r0 Yhd
def Yhe:=[Qa (Qv 10) (Qd (Qn 4)),Qa (Qv 11) (Qe Qt Q0 (Qn 10) (Qo (Qp (Qq (Qr Qu 0))))),Qa (Qv 2) (Qd (Qn 11))]
def Wpt:MC:=.r0 Yhe
def Yhf:MC:=.seq Wpr (.seq Wps (.seq Wpt .ret))
attribute [go_sem] Yhc Yhd Yhe
theorem W9t:KK QP 131 f131 [] Yhf [(Q1 2)] 12:=by refine⟨func131,?_,?_,?_,?_⟩<;>kernel_rfl
theorem Wpu:Xaa QP 131=true:=by kernel_rfl
theorem Wpv (h:GI QP gp [(Q1 2)] res 12 Yhf args):Does QP gp 131 args res:=W9t.i Wpu h
def Yhg:=[Qa (Qv 2) (Qd (Qo (Qp A.nil))),Qa (Qv 3) (Qd (Qo (Qp (Qq (Qr Qu 0)))))]
def Wpw:MC:=.r0 Yhg
def Yhh:=[Qa (Qv 4) (Qd (Qo (Qp A.nil)))]
def Wpx:MC:=.r0 Yhh
def Yhi:=[Qa (Qv 5) (Qd (Qo (Qp (Qq (Qr Qu 0)))))]
def Wpy:MC:=.r0 Yhi
def Yhj:=[Qa (Qv 8) (Qd (Qn 5)),Qa (Qv 9) (Qd (Qn 0)),Qa (Qv 10) (Qk QG (Qn 9)),Qa (Qv 11) (Qe Qt Q5 (Qn 8) (Qn 10))]
def Wpz:MC:=.r0 Yhj
def Yhk:=[Qa (Qv 13) (Qd (Qn 0)),Qa (Qv 14) (Qd (Qn 5)),Qa (Qv 15) (Qh 157 [(Qn 13),(Qn 14)]),Qa (Qv 12) (Qd (Qn 15)),Qa (Qv 16) (Qi (Qn 12) 0),Qa (Qv 17) (Qi (Qn 12) 1),Qa (Qv 6) (Qd (Qn 16)),Qa (Qv 7) (Qd (Qn 17))]
def Wp0:MC:=.r0 Yhk
def Yhl:=[Qa (Qv 18) (Qd (Qn 7)),Qa (Qv 19) (Qe Qt Q0 (Qn 18) (Qo (Qp (Qq (Qr Qu 0)))))]
def Wp1:MC:=.r0 Yhl
def Xy9:=[Qa (Qv 2) (Qd (Qo (Qp A.nil))),Qa (Qv 3) (Qd (Qo (Qp (Qq (Qr Qu 40)))))]
def Yux:MC:=.r0 Xy9
def Xza:=[Qa (Qv 20) (Qd (Qn 4)),Qa (Qv 21) (Qd (Qn 6)),Qa (Qv 22) (Q3 1 [(Qr Qu 0)] 1 [(0,(Qn 21))]),Qa (Qv 23) (QN 3 1 8 (Qn 20) (Qn 22)),Qa (Qv 4) (Qd (Qn 23))]
def Yuy:MC:=.r0 Xza
def Xzb:=[Qa (Qv 24) (Qd (Qn 5)),Qa (Qv 25) (Qd (Qn 7)),Qa (Qv 26) (Qe Qt Qz (Qn 24) (Qn 25)),Qa (Qv 5) (Qd (Qn 26))]
def Yuz:MC:=.r0 Xzb
def Yu0:MC:=.seq (.seq Wp1 (.cond (Qn 19) (.seq Yux .ret) .skip)) (.seq Yuy Yuz)
def Xgv:=[Qa (Qv 27) (Qd (Qn 4)),Qa (Qv 2) (Qd (Qn 27)),Qa (Qv 3) (Qd (Qo (Qp (Qq (Qr Qu 0)))))]
def Yu1:MC:=.r0 Xgv
def Yu2:MC:=.seq (.blk 0 (.loop (.seq (.seq Wpz (.cond (Qn 11) .skip (QM 0))) (.blk 1 (.seq Wp0 Yu0))))) (.seq Yu1 .ret)
def Xzc:MC:=.seq Wpw (.seq Wpx (.seq Wpy Yu2))
attribute [go_sem] Yhg Yhh Yhi Yhj Yhk Yhl Xy9 Xza Xzb
theorem W9u:KK QP 132 f132 [] Xzc [(Q1 2),(Q1 3)] 28:=by refine⟨func132,?_,?_,?_,?_⟩<;>kernel_rfl
theorem Wp2:Xaa QP 132=true:=by kernel_rfl
theorem Wp3 (h:GI QP gp [(Q1 2),(Q1 3)] res 28 Xzc args):Does QP gp 132 args res:=W9u.i Wp2 h
def Yhm:=[Qa (Qv 2) (Qd (Qo (Qp (Qq (Q4 (Qx #[]))))))]
def Wp4:MC:=.r0 Yhm
def Yhn:=[Qa (Qv 3) (Qd (Qo (Qp (Qq (Q4 (Qx #[48,49,50,51,52,53,54,55,56,57,97,98,99,100,101,102]))))))]
def Wp5:MC:=.r0 Yhn
def Yho:=[Qa (Qv 4) (Qd (Qn 0))]
def Wp6:MC:=.r0 Yho
def Yhp:=[Qa (Qv 6) (Qe Qt Q0 (Qn 4) (Qo (Qp (Qq (Qr Qu 34))))),Qa (Qv 5) (Qd (Qn 6))]
def Wp7:MC:=.r0 Yhp
def Yhq:=[Qa (Qv 2) (Qd (Qo (Qp (Qq (Q4 (Qx #[92,34]))))))]
def Wp8:MC:=.r0 Yhq
def Yhr:=[Qa (Qv 8) (Qe Qt Q0 (Qn 4) (Qo (Qp (Qq (Qr Qu 92))))),Qa (Qv 7) (Qd (Qn 8))]
def Wp9:MC:=.r0 Yhr
def Yhs:=[Qa (Qv 2) (Qd (Qo (Qp (Qq (Q4 (Qx #[92,92]))))))]
def Wqa:MC:=.r0 Yhs
def Xzd:=[Qa (Qv 10) (Qe Qt Q0 (Qn 4) (Qo (Qp (Qq (Qr Qu 10))))),Qa (Qv 9) (Qd (Qn 10))]
def Yu3:MC:=.r0 Xzd
def Xze:=[Qa (Qv 2) (Qd (Qo (Qp (Qq (Q4 (Qx #[92,110]))))))]
def Yu4:MC:=.r0 Xze
def Xzf:=[Qa (Qv 12) (Qe Qt Q0 (Qn 4) (Qo (Qp (Qq (Qr Qu 9))))),Qa (Qv 11) (Qd (Qn 12))]
def Yu5:MC:=.r0 Xzf
def Xzg:=[Qa (Qv 2) (Qd (Qo (Qp (Qq (Q4 (Qx #[92,116]))))))]
def Yu6:MC:=.r0 Xzg
def Xzh:=[Qa (Qv 14) (Qe Qt Q0 (Qn 4) (Qo (Qp (Qq (Qr Qu 13))))),Qa (Qv 13) (Qd (Qn 14))]
def Yu7:MC:=.r0 Xzh
def Xzi:=[Qa (Qv 2) (Qd (Qo (Qp (Qq (Q4 (Qx #[92,114]))))))]
def Yu8:MC:=.r0 Xzi
def Yu9:MC:=.seq Yu5 (.cond (Qn 11) (.seq Yu6 .ret) (.seq Yu7 (.cond (Qn 13) (.seq Yu8 .ret) .skip)))
def Yva:MC:=.cond (Qn 7) (.seq Wqa .ret) (.seq Yu3 (.cond (Qn 9) (.seq Yu4 .ret) Yu9))
def Yvb:MC:=.seq Wp7 (.cond (Qn 5) (.seq Wp8 .ret) (.seq Wp9 Yva))
def Xzj:=[Qa (Qv 15) (Qd (Qn 0)),Qa (Qv 16) (Qh 158 [(Qn 15)]),Qa (Qv 17) (QU (Qn 16))]
def Yvc:MC:=.r0 Xzj
def Xzk:=[Qa (Qv 18) (Qd (Qn 3)),Qa (Qv 19) (Qd (Qn 0)),Qa (Qv 20) (Qe Qt QA (Qn 19) (Qo (Qp (Qq (Qr Qu 16))))),Qa (Qv 21) (Qd (Qn 0)),Qa (Qv 22) (Qe Qt QA (Qn 21) (Qo (Qp (Qq (Qr Qu 16))))),Qa (Qv 23) (Qe Qt Qz (Qn 22) (Qo (Qp (Qq (Qr Qu 1))))),Qa (Qv 24) (QW (Qn 18) (Qv (Qn 20)) (Qv (Qn 23))),Qa (Qv 25) (Qe QG Qz (Qo (Qp (Qq (Q4 (Qx #[92,120]))))) (Qn 24)),Qa (Qv 26) (Qd (Qn 3)),Qa (Qv 27) (Qd (Qn 0)),Qa (Qv 28) (Qe Qt Q7 (Qn 27) (Qo (Qp (Qq (Qr Qu 16))))),Qa (Qv 29) (Qd (Qn 0)),Qa (Qv 30) (Qe Qt Q7 (Qn 29) (Qo (Qp (Qq (Qr Qu 16))))),Qa (Qv 31) (Qe Qt Qz (Qn 30) (Qo (Qp (Qq (Qr Qu 1))))),Qa (Qv 32) (QW (Qn 26) (Qv (Qn 28)) (Qv (Qn 31))),Qa (Qv 33) (Qe QG Qz (Qn 25) (Qn 32)),Qa (Qv 2) (Qd (Qn 33))]
def Yvd:MC:=.reg true Xzk
def Xzl:=[Qa (Qv 34) (Qd (Qn 0)),Qa (Qv 35) (Qh 159 [(Qn 34)]),Qa (Qv 2) (Qd (Qn 35))]
def Yve:MC:=.r0 Xzl
def Yvf:MC:=.seq (.seq Wp6 (.blk 0 Yvb)) (.seq (.seq Yvc (.cond (Qn 17) (.seq Yvd .ret) .skip)) (.seq Yve .ret))
def Xzm:MC:=.seq Wp4 (.seq Wp5 Yvf)
attribute [go_sem] Yhm Yhn Yho Yhp Yhq Yhr Yhs Xzd Xze Xzf Xzg Xzh Xzi Xzj Xzk Xzl
theorem W9v:KK QP 133 f133 [] Xzm [(Q1 2)] 36:=by refine⟨func133,?_,?_,?_,?_⟩<;>kernel_rfl
theorem Wqb:Xaa QP 133=true:=by kernel_rfl
theorem Wqc (h:GI QP gp [(Q1 2)] res 36 Xzm args):Does QP gp 133 args res:=W9v.i Wqb h
def Yht:=[Qa (Qv 4) (Qd (Qo (Qp A.nil)))]
def Wqd:MC:=.r0 Yht
def Yhu:=[Qa (Qv 5) (Qd (Qn 1)),Qa (Qv 6) (Q2 Q6 (Qn 5)),Qa (Qv 7) (Qe Qt QE (Qn 6) (Qo (Qp (Qq (Qr Q6 127)))))]
def Wqe:MC:=.r0 Yhu
def Yhv:=[Qa (Qv 8) (Qd (Qn 0)),Qa (Qv 9) (Qd (Qn 1)),Qa (Qv 10) (Q2 Qw (Qn 9)),Qa (Qv 11) (Q3 1 [(Qr Qw 0)] 1 [(0,(Qn 10))]),Qa (Qv 12) (QN 5 1 1 (Qn 8) (Qn 11)),Qa (Qv 4) (Qd (Qn 12))]
def Wqf:MC:=.r0 Yhv
def Yhw:=[Qa (Qv 13) (Qd (Qn 0)),Qa (Qv 14) (Qd (Qn 1)),Qa (Qv 15) (Qh 164 [(Qn 13),(Qn 14)]),Qa (Qv 4) (Qd (Qn 15))]
def Wqg:MC:=.r0 Yhw
def Xzn:MC:=.seq Wqd (.seq (.seq Wqe (.cond (Qn 7) (.seq Wqf .ret) .skip)) (.seq Wqg .ret))
attribute [go_sem] Yht Yhu Yhv Yhw
theorem W9w:KK QP 136 f136 [] Xzn [(Q1 4)] 16:=by refine⟨func136,?_,?_,?_,?_⟩<;>kernel_rfl
theorem Jhf:Xaa QP 136=true:=by kernel_rfl
theorem Yvg (h:GT QP gp [(Q1 4)] pre R 16 Xzn args):Tri QP gp 136 args pre R:=W9w.t h
def Yhx:=[Qa (Qv 4) (Qd (Qo (Qp (Qq (Qr Qu 0))))),Qa (Qv 5) (Qd (Qo (Qp (Qq (Qr Qu 0)))))]
def Wqh:MC:=.r0 Yhx
def Yhy:=[Qa (Qv 9) (Qd (Qn 0)),Qa (Qv 10) (Qd (Qn 1)),Qa (Qv 11) (QS (Qn 9) (Qn 10)),Qa (Qv 12) (Q2 Qu (Qn 11)),Qa (Qv 6) (Qd (Qn 12))]
def Wqi:MC:=.r0 Yhy
def Yhz:=[Qa (Qv 7) (Qd (Qo (Qp (Qq (Qr Qu 1)))))]
def Wqj:MC:=.r0 Yhz
def Yh0:=[Qa (Qv 13) (Qd (Qn 6)),Qa (Qv 14) (Qe Qt QD (Qn 13) (Qo (Qp (Qq (Qr Qu 240)))))]
def Wqk:MC:=.r0 Yh0
def Yh1:=[Qa (Qv 7) (Qd (Qo (Qp (Qq (Qr Qu 4)))))]
def Wql:MC:=.r0 Yh1
def Yh2:=[Qa (Qv 15) (Qd (Qn 6)),Qa (Qv 16) (Qe Qt QH (Qn 15) (Qo (Qp (Qq (Qr Qu 240))))),Qa (Qv 6) (Qd (Qn 16))]
def Wqm:MC:=.r0 Yh2
def Yh3:=[Qa (Qv 17) (Qd (Qn 6)),Qa (Qv 18) (Qe Qt QD (Qn 17) (Qo (Qp (Qq (Qr Qu 224)))))]
def Wqn:MC:=.r0 Yh3
def Yh4:=[Qa (Qv 7) (Qd (Qo (Qp (Qq (Qr Qu 3)))))]
def Wqo:MC:=.r0 Yh4
def Yh5:=[Qa (Qv 19) (Qd (Qn 6)),Qa (Qv 20) (Qe Qt QH (Qn 19) (Qo (Qp (Qq (Qr Qu 224))))),Qa (Qv 6) (Qd (Qn 20))]
def Wqp:MC:=.r0 Yh5
def Xzo:=[Qa (Qv 21) (Qd (Qn 6)),Qa (Qv 22) (Qe Qt QD (Qn 21) (Qo (Qp (Qq (Qr Qu 192)))))]
def Yvh:MC:=.r0 Xzo
def Xzp:=[Qa (Qv 7) (Qd (Qo (Qp (Qq (Qr Qu 2)))))]
def Yvi:MC:=.r0 Xzp
def Xzq:=[Qa (Qv 23) (Qd (Qn 6)),Qa (Qv 24) (Qe Qt QH (Qn 23) (Qo (Qp (Qq (Qr Qu 192))))),Qa (Qv 6) (Qd (Qn 24))]
def Yvj:MC:=.r0 Xzq
def Yvk:MC:=.cond (Qn 18) (.seq Wqo Wqp) (.seq Yvh (.cond (Qn 22) (.seq Yvi Yvj) .skip))
def Yvl:MC:=.cond (Qn 14) (.seq Wql Wqm) (.seq Wqn Yvk)
def Xzr:=[Qa (Qv 25) (Qd (Qn 7)),Qa (Qv 26) (Qd (Qn 0)),Qa (Qv 27) (Qk QG (Qn 26)),Qa (Qv 28) (Qd (Qn 1)),Qa (Qv 29) (Qe Qt QH (Qn 27) (Qn 28)),Qa (Qv 30) (Qe Qt QO (Qn 25) (Qn 29))]
def Yvm:MC:=.r0 Xzr
def Xzs:=[Qa (Qv 4) (Qd (Qo (Qp (Qq (Qr Qu 0))))),Qa (Qv 5) (Qd (Qo (Qp (Qq (Qr Qu 0)))))]
def Yvn:MC:=.r0 Xzs
def Xzt:=[Qa (Qv 8) (Qd (Qo (Qp (Qq (Qr Qu 1)))))]
def Yvo:MC:=.r0 Xzt
def Xzu:=[Qa (Qv 31) (Qd (Qn 8)),Qa (Qv 32) (Qd (Qn 7)),Qa (Qv 33) (Qe Qt Q5 (Qn 31) (Qn 32))]
def Yvp:MC:=.r0 Xzu
def Xzv:=[Qa (Qv 36) (Qd (Qn 6)),Qa (Qv 37) (Qe Qt Go.BinOp.mul (Qo (Qp (Qq (Qr Qu 64)))) (Qn 36)),Qa (Qv 38) (Qd (Qn 0)),Qa (Qv 39) (Qd (Qn 1)),Qa (Qv 40) (Qd (Qn 8)),Qa (Qv 41) (Qe Qt Qz (Qn 39) (Qn 40)),Qa (Qv 42) (QS (Qn 38) (Qn 41)),Qa (Qv 43) (Q2 Qu (Qn 42)),Qa (Qv 44) (Qe Qt Q7 (Qn 43) (Qo (Qp (Qq (Qr Qu 64))))),Qa (Qv 45) (Qe Qt Qz (Qn 37) (Qn 44)),Qa (Qv 6) (Qd (Qn 45))]
def Yvq:MC:=.r0 Xzv
def Xzw:=[Qa (Qv 34) (Qd (Qn 8)),Qa (Qv 35) (Qe Qt Qz (Qn 34) (Qo (Qp (Qq (Qr Qu 1))))),Qa (Qv 8) (Qd (Qn 35))]
def Yvr:MC:=.r0 Xzw
def Yvs:MC:=.seq Yvo (.blk 0 (.loop (.seq (.seq Yvp (.cond (Qn 33) .skip (QM 0))) (.seq (.blk 1 Yvq) Yvr))))
def Xzx:=[Qa (Qv 46) (Qd (Qn 6)),Qc (Qv 47) (Qh 179 [(Qn 46)]),Qa (Qv 48) (QU (Qn 47)),Qa (Qv 49) (Qd (Qn 48)),Qb 49 false (Qv 50),Qa (Qv 50) (Qd (Qn 6)),Qb 49 false (Qv 51),Qc (Qv 51) (Qh 159 [(Qn 50)]),Qb 49 false (Qv 52),Qa (Qv 52) (Qd (Qn 0)),Qb 49 false (Qv 53),Qa (Qv 53) (Qd (Qn 1)),Qb 49 false (Qv 54),Qa (Qv 54) (Qd (Qn 1)),Qb 49 false (Qv 55),Qa (Qv 55) (Qd (Qn 7)),Qb 49 false (Qv 56),Qa (Qv 56) (Qe Qt Qz (Qn 54) (Qn 55)),Qb 49 false (Qv 57),Qa (Qv 57) (QW (Qn 52) (Qv (Qn 53)) (Qv (Qn 56))),Qb 49 false (Qv 58),Qa (Qv 58) (Qe QG QI (Qn 51) (Qn 57)),Qa (Qv 59) (Qm (Qn 49) (Qo (Qp (Qq (Qs true)))) (Qn 58))]
def Yvt:MC:=.reg true Xzx
def Xzy:=[Qa (Qv 4) (Qd (Qo (Qp (Qq (Qr Qu 0))))),Qa (Qv 5) (Qd (Qo (Qp (Qq (Qr Qu 0)))))]
def Yvu:MC:=.r0 Xzy
def Xzz:=[Qa (Qv 60) (Qd (Qn 6)),Qa (Qv 61) (Qd (Qn 7)),Qa (Qv 4) (Qd (Qn 60)),Qa (Qv 5) (Qd (Qn 61))]
def Yvv:MC:=.r0 Xzz
def Yvw:MC:=.seq Yvs (.seq (.seq Yvt (.cond (Qn 59) (.seq Yvu .ret) .skip)) (.seq Yvv .ret))
def Yvx:MC:=.seq (.seq Wqk Yvl) (.seq (.seq Yvm (.cond (Qn 30) (.seq Yvn .ret) .skip)) Yvw)
def Xz0:MC:=.seq Wqh (.seq Wqi (.seq Wqj Yvx))
attribute [go_sem] Yhx Yhy Yhz Yh0 Yh1 Yh2 Yh3 Yh4 Yh5 Xzo Xzp Xzq Xzr Xzs Xzt Xzu Xzv Xzw Xzx Xzy Xzz
theorem W9x:KK QP 157 f157 [] Xz0 [(Q1 4),(Q1 5)] 62:=by refine⟨func157,?_,?_,?_,?_⟩<;>kernel_rfl
theorem Wqq:Xaa QP 157=true:=by kernel_rfl
theorem Wqr (h:GI QP gp [(Q1 4),(Q1 5)] res 62 Xz0 args):Does QP gp 157 args res:=W9x.i Wqq h
def Yh6:=[Qa (Qv 2) (Qd (Qo (Qp (Qq (Qs false)))))]
def Wqs:MC:=.r0 Yh6
def Yh7:=[Qa (Qv 3) (Qd (Qn 0)),Qa (Qv 4) (Qe Qt QD (Qn 3) (Qo (Qp (Qq (Qr Qu 32))))),Qa (Qv 5) (Qd (Qn 4)),Qb 5 true (Qv 6),Qa (Qv 6) (Qd (Qn 0)),Qb 5 true (Qv 7),Qa (Qv 7) (Qe Qt QI (Qn 6) (Qo (Qp (Qq (Qr Qu 127))))),Qa (Qv 8) (Qm (Qn 5) (Qn 7) (Qo (Qp (Qq (Qs false))))),Qa (Qv 2) (Qd (Qn 8))]
def Wqt:MC:=.r0 Yh7
def Yh8:MC:=.seq Wqs (.seq Wqt .ret)
attribute [go_sem] Yh6 Yh7
theorem W9y:KK QP 158 f158 [] Yh8 [(Q1 2)] 9:=by refine⟨func158,?_,?_,?_,?_⟩<;>kernel_rfl
theorem Wqu:Xaa QP 158=true:=by kernel_rfl
theorem Wqv (h:GI QP gp [(Q1 2)] res 9 Yh8 args):Does QP gp 158 args res:=W9y.i Wqu h
def Yh9:=[Qa (Qv 2) (Qd (Qo (Qp (Qq (Q4 (Qx #[]))))))]
def Wqw:MC:=.r0 Yh9
def Yia:=[Qa (Qv 3) (Qd (Qn 0)),Qa (Qv 4) (Qe Qt Q5 (Qn 3) (Qo (Qp (Qq (Qr Qu 128)))))]
def Wqx:MC:=.r0 Yia
def Yib:=[Qa (Qv 5) (Qd (Qn 0)),Qa (Qv 6) (Q2 Qw (Qn 5)),Qa (Qv 7) (Q3 1 [(Qr Qw 0)] 1 [(0,(Qn 6))]),Qa (Qv 8) (QT (Qn 7)),Qa (Qv 2) (Qd (Qn 8))]
def Wqy:MC:=.r0 Yib
def Yic:=[Qa (Qv 9) (Qd (Qn 0)),Qa (Qv 10) (Qe Qt Q5 (Qn 9) (Qo (Qp (Qq (Qr Qu 2048)))))]
def Wqz:MC:=.r0 Yic
def Yid:=[Qa (Qv 11) (Qd (Qn 0)),Qa (Qv 12) (Qe Qt QA (Qn 11) (Qo (Qp (Qq (Qr Qu 64))))),Qa (Qv 13) (Qe Qt Qz (Qo (Qp (Qq (Qr Qu 192)))) (Qn 12)),Qa (Qv 14) (Q2 Qw (Qn 13)),Qa (Qv 15) (Qd (Qn 0)),Qa (Qv 16) (Qe Qt Q7 (Qn 15) (Qo (Qp (Qq (Qr Qu 64))))),Qa (Qv 17) (Qe Qt Qz (Qo (Qp (Qq (Qr Qu 128)))) (Qn 16)),Qa (Qv 18) (Q2 Qw (Qn 17)),Qa (Qv 19) (Q3 1 [(Qr Qw 0)] 2 [(0,(Qn 14)),(1,(Qn 18))]),Qa (Qv 20) (QT (Qn 19)),Qa (Qv 2) (Qd (Qn 20))]
def Wq0:MC:=.r0 Yid
def Xz1:=[Qa (Qv 21) (Qd (Qn 0)),Qa (Qv 22) (Qe Qt Q5 (Qn 21) (Qo (Qp (Qq (Qr Qu 65536)))))]
def Yvy:MC:=.r0 Xz1
def Xz2:=[Qa (Qv 23) (Qd (Qn 0)),Qa (Qv 24) (Qe Qt QA (Qn 23) (Qo (Qp (Qq (Qr Qu 4096))))),Qa (Qv 25) (Qe Qt Qz (Qo (Qp (Qq (Qr Qu 224)))) (Qn 24)),Qa (Qv 26) (Q2 Qw (Qn 25)),Qa (Qv 27) (Qd (Qn 0)),Qa (Qv 28) (Qe Qt QA (Qn 27) (Qo (Qp (Qq (Qr Qu 64))))),Qa (Qv 29) (Qe Qt Q7 (Qn 28) (Qo (Qp (Qq (Qr Qu 64))))),Qa (Qv 30) (Qe Qt Qz (Qo (Qp (Qq (Qr Qu 128)))) (Qn 29)),Qa (Qv 31) (Q2 Qw (Qn 30)),Qa (Qv 32) (Qd (Qn 0)),Qa (Qv 33) (Qe Qt Q7 (Qn 32) (Qo (Qp (Qq (Qr Qu 64))))),Qa (Qv 34) (Qe Qt Qz (Qo (Qp (Qq (Qr Qu 128)))) (Qn 33)),Qa (Qv 35) (Q2 Qw (Qn 34)),Qa (Qv 36) (Q3 1 [(Qr Qw 0)] 3 [(0,(Qn 26)),(1,(Qn 31)),(2,(Qn 35))]),Qa (Qv 37) (QT (Qn 36)),Qa (Qv 2) (Qd (Qn 37))]
def Yvz:MC:=.r0 Xz2
def Xz3:=[Qa (Qv 38) (Qd (Qn 0)),Qa (Qv 39) (Qe Qt QA (Qn 38) (Qo (Qp (Qq (Qr Qu 262144))))),Qa (Qv 40) (Qe Qt Qz (Qo (Qp (Qq (Qr Qu 240)))) (Qn 39)),Qa (Qv 41) (Q2 Qw (Qn 40)),Qa (Qv 42) (Qd (Qn 0)),Qa (Qv 43) (Qe Qt QA (Qn 42) (Qo (Qp (Qq (Qr Qu 4096))))),Qa (Qv 44) (Qe Qt Q7 (Qn 43) (Qo (Qp (Qq (Qr Qu 64))))),Qa (Qv 45) (Qe Qt Qz (Qo (Qp (Qq (Qr Qu 128)))) (Qn 44)),Qa (Qv 46) (Q2 Qw (Qn 45)),Qa (Qv 47) (Qd (Qn 0)),Qa (Qv 48) (Qe Qt QA (Qn 47) (Qo (Qp (Qq (Qr Qu 64))))),Qa (Qv 49) (Qe Qt Q7 (Qn 48) (Qo (Qp (Qq (Qr Qu 64))))),Qa (Qv 50) (Qe Qt Qz (Qo (Qp (Qq (Qr Qu 128)))) (Qn 49)),Qa (Qv 51) (Q2 Qw (Qn 50)),Qa (Qv 52) (Qd (Qn 0)),Qa (Qv 53) (Qe Qt Q7 (Qn 52) (Qo (Qp (Qq (Qr Qu 64))))),Qa (Qv 54) (Qe Qt Qz (Qo (Qp (Qq (Qr Qu 128)))) (Qn 53)),Qa (Qv 55) (Q2 Qw (Qn 54)),Qa (Qv 56) (Q3 1 [(Qr Qw 0)] 4 [(0,(Qn 41)),(1,(Qn 46)),(2,(Qn 51)),(3,(Qn 55))]),Qa (Qv 57) (QT (Qn 56)),Qa (Qv 2) (Qd (Qn 57))]
def Yv0:MC:=.r0 Xz3
def Yv1:MC:=.seq (.seq Wqz (.cond (Qn 10) (.seq Wq0 .ret) .skip)) (.seq (.seq Yvy (.cond (Qn 22) (.seq Yvz .ret) .skip)) (.seq Yv0 .ret))
def Xz4:MC:=.seq Wqw (.seq (.seq Wqx (.cond (Qn 4) (.seq Wqy .ret) .skip)) Yv1)
attribute [go_sem] Yh9 Yia Yib Yic Yid Xz1 Xz2 Xz3
theorem W9z:KK QP 159 f159 [] Xz4 [(Q1 2)] 58:=by refine⟨func159,?_,?_,?_,?_⟩<;>kernel_rfl
theorem Wq1:Xaa QP 159=true:=by kernel_rfl
theorem Wq2 (h:GI QP gp [(Q1 2)] res 58 Xz4 args):Does QP gp 159 args res:=W9z.i Wq1 h
def Yie:=[Qa (Qv 4) (Qd (Qo (Qp A.nil)))]
def Wq3:MC:=.r0 Yie
def Yif:=[Qa (Qv 6) (Qd (Qn 1)),Qa (Qv 7) (Q2 Q6 (Qn 6)),Qa (Qv 5) (Qd (Qn 7))]
def Wq4:MC:=.r0 Yif
def Yig:=[Qa (Qv 12) (Qd (Qn 5)),Qa (Qv 13) (Qe Qt QE (Qn 12) (Qo (Qp (Qq (Qr Q6 2047))))),Qa (Qv 11) (Qd (Qn 13))]
def Wq5:MC:=.r0 Yig
def Yih:=[Qa (Qv 14) (Qd (Qn 0)),Qa (Qv 15) (Qd (Qn 1)),Qa (Qv 16) (Qe Qt QB (Qn 15) (Qo (Qp (Qq (Qr Q8 6))))),Qa (Qv 17) (Q2 Qw (Qn 16)),Qa (Qv 18) (Qe Qt Q9 (Qo (Qp (Qq (Qr Qw 192)))) (Qn 17)),Qa (Qv 19) (Qd (Qn 1)),Qa (Qv 20) (Q2 Qw (Qn 19)),Qa (Qv 21) (Qe Qt QC (Qn 20) (Qo (Qp (Qq (Qr Qw 63))))),Qa (Qv 22) (Qe Qt Q9 (Qo (Qp (Qq (Qr Qw 128)))) (Qn 21)),Qa (Qv 23) (Q3 1 [(Qr Qw 0)] 2 [(0,(Qn 18)),(1,(Qn 22))]),Qa (Qv 24) (QN 5 1 1 (Qn 14) (Qn 23)),Qa (Qv 4) (Qd (Qn 24))]
def Wq6:MC:=.r0 Yih
def Yii:=[Qa (Qv 26) (Qd (Qn 5)),Qa (Qv 27) (Qe Qt Q5 (Qn 26) (Qo (Qp (Qq (Qr Q6 55296))))),Qa (Qv 25) (Qd (Qn 27))]
def Wq7:MC:=.r0 Yii
def Yij:=[Qa (Qv 28) (Qd (Qn 5)),Qa (Qv 29) (Qe Qt Q5 (Qo (Qp (Qq (Qr Q6 57343)))) (Qn 28)),Qa (Qv 30) (Qd (Qn 29)),Qb 30 true (Qv 31),Qa (Qv 31) (Qd (Qn 5)),Qb 30 true (Qv 32),Qa (Qv 32) (Qe Qt QE (Qn 31) (Qo (Qp (Qq (Qr Q6 65535))))),Qa (Qv 33) (Qm (Qn 30) (Qn 32) (Qo (Qp (Qq (Qs false))))),Qa (Qv 25) (Qd (Qn 33))]
def Wq8:MC:=.r0 Yij
def Xz5:=[Qa (Qv 34) (Qd (Qn 0)),Qa (Qv 35) (Qd (Qn 1)),Qa (Qv 36) (Qe Qt QB (Qn 35) (Qo (Qp (Qq (Qr Q8 12))))),Qa (Qv 37) (Q2 Qw (Qn 36)),Qa (Qv 38) (Qe Qt Q9 (Qo (Qp (Qq (Qr Qw 224)))) (Qn 37)),Qa (Qv 39) (Qd (Qn 1)),Qa (Qv 40) (Qe Qt QB (Qn 39) (Qo (Qp (Qq (Qr Q8 6))))),Qa (Qv 41) (Q2 Qw (Qn 40)),Qa (Qv 42) (Qe Qt QC (Qn 41) (Qo (Qp (Qq (Qr Qw 63))))),Qa (Qv 43) (Qe Qt Q9 (Qo (Qp (Qq (Qr Qw 128)))) (Qn 42)),Qa (Qv 44) (Qd (Qn 1)),Qa (Qv 45) (Q2 Qw (Qn 44)),Qa (Qv 46) (Qe Qt QC (Qn 45) (Qo (Qp (Qq (Qr Qw 63))))),Qa (Qv 47) (Qe Qt Q9 (Qo (Qp (Qq (Qr Qw 128)))) (Qn 46)),Qa (Qv 48) (Q3 1 [(Qr Qw 0)] 3 [(0,(Qn 38)),(1,(Qn 43)),(2,(Qn 47))]),Qa (Qv 49) (QN 5 1 1 (Qn 34) (Qn 48)),Qa (Qv 4) (Qd (Qn 49))]
def Yv2:MC:=.r0 Xz5
def Xz6:=[Qa (Qv 51) (Qd (Qn 5)),Qa (Qv 52) (Qe Qt QO (Qn 51) (Qo (Qp (Qq (Qr Q6 65535))))),Qa (Qv 53) (Qd (Qn 52)),Qb 53 true (Qv 54),Qa (Qv 54) (Qd (Qn 5)),Qb 53 true (Qv 55),Qa (Qv 55) (Qe Qt QE (Qn 54) (Qo (Qp (Qq (Qr Q6 1114111))))),Qa (Qv 56) (Qm (Qn 53) (Qn 55) (Qo (Qp (Qq (Qs false))))),Qa (Qv 50) (Qd (Qn 56))]
def Yv3:MC:=.r0 Xz6
def Xz7:=[Qa (Qv 57) (Qd (Qn 0)),Qa (Qv 58) (Qd (Qn 1)),Qa (Qv 59) (Qe Qt QB (Qn 58) (Qo (Qp (Qq (Qr Q8 18))))),Qa (Qv 60) (Q2 Qw (Qn 59)),Qa (Qv 61) (Qe Qt Q9 (Qo (Qp (Qq (Qr Qw 240)))) (Qn 60)),Qa (Qv 62) (Qd (Qn 1)),Qa (Qv 63) (Qe Qt QB (Qn 62) (Qo (Qp (Qq (Qr Q8 12))))),Qa (Qv 64) (Q2 Qw (Qn 63)),Qa (Qv 65) (Qe Qt QC (Qn 64) (Qo (Qp (Qq (Qr Qw 63))))),Qa (Qv 66) (Qe Qt Q9 (Qo (Qp (Qq (Qr Qw 128)))) (Qn 65)),Qa (Qv 67) (Qd (Qn 1)),Qa (Qv 68) (Qe Qt QB (Qn 67) (Qo (Qp (Qq (Qr Q8 6))))),Qa (Qv 69) (Q2 Qw (Qn 68)),Qa (Qv 70) (Qe Qt QC (Qn 69) (Qo (Qp (Qq (Qr Qw 63))))),Qa (Qv 71) (Qe Qt Q9 (Qo (Qp (Qq (Qr Qw 128)))) (Qn 70)),Qa (Qv 72) (Qd (Qn 1)),Qa (Qv 73) (Q2 Qw (Qn 72)),Qa (Qv 74) (Qe Qt QC (Qn 73) (Qo (Qp (Qq (Qr Qw 63))))),Qa (Qv 75) (Qe Qt Q9 (Qo (Qp (Qq (Qr Qw 128)))) (Qn 74)),Qa (Qv 76) (Q3 1 [(Qr Qw 0)] 4 [(0,(Qn 61)),(1,(Qn 66)),(2,(Qn 71)),(3,(Qn 75))]),Qa (Qv 77) (QN 5 1 1 (Qn 57) (Qn 76)),Qa (Qv 4) (Qd (Qn 77))]
def Yv4:MC:=.r0 Xz7
def Xz8:=[Qa (Qv 8) (Qd (Qn 0)),Qa (Qv 9) (Q3 1 [(Qr Qw 0)] 3 [(0,(Qo (Qp (Qq (Qr Qw 239))))),(1,(Qo (Qp (Qq (Qr Qw 191))))),(2,(Qo (Qp (Qq (Qr Qw 189)))))]),Qa (Qv 10) (QN 5 1 1 (Qn 8) (Qn 9)),Qa (Qv 4) (Qd (Qn 10))]
def Yv5:MC:=.r0 Xz8
def Yv6:MC:=.cond (Qn 25) (.seq Yv2 .ret) (.seq Yv3 (.cond (Qn 50) (.seq Yv4 .ret) (.seq Yv5 .ret)))
def Yv7:MC:=.cond (Qn 11) (.seq Wq6 .ret) (.seq (.seq Wq7 (.cond (Qn 25) .skip Wq8)) Yv6)
def Xz9:MC:=.seq Wq3 (.seq Wq4 (.blk 0 (.seq Wq5 Yv7)))
attribute [go_sem] Yie Yif Yig Yih Yii Yij Xz5 Xz6 Xz7 Xz8
theorem W90:KK QP 164 f164 [] Xz9 [(Q1 4)] 78:=by refine⟨func164,?_,?_,?_,?_⟩<;>kernel_rfl
theorem Wq9:Xaa QP 164=true:=by kernel_rfl
theorem Yv8 (h:GT QP gp [(Q1 4)] pre R 78 Xz9 args):Tri QP gp 164 args pre R:=W90.t h
def Yik:=[Qa (Qv 2) (Qd (Qo (Qp (Qq (Qs false)))))]
def Wra:MC:=.r0 Yik
def Yil:=[Qa (Qv 3) (Qd (Qn 0)),Qa (Qv 4) (Qe Qt QD (Qn 3) (Qo (Qp (Qq (Qr Qu 0))))),Qa (Qv 5) (Qd (Qn 4)),Qb 5 true (Qv 6),Qa (Qv 6) (Qd (Qn 0)),Qb 5 true (Qv 7),Qa (Qv 7) (Qe Qt QE (Qn 6) (Qo (Qp (Qq (Qr Qu 1114111))))),Qa (Qv 8) (Qm (Qn 5) (Qn 7) (Qo (Qp (Qq (Qs false))))),Qa (Qv 9) (Qd (Qn 8)),Qb 9 true (Qv 10),Qa (Qv 10) (Qd (Qn 0)),Qb 9 true (Qv 11),Qa (Qv 11) (Qe Qt Q5 (Qn 10) (Qo (Qp (Qq (Qr Qu 55296))))),Qb 9 true (Qv 12),Qa (Qv 12) (Qd (Qn 11)),Qb 12 false (Qv 13),Qa (Qv 13) (Qd (Qn 0)),Qb 12 false (Qv 14),Qa (Qv 14) (Qe Qt QO (Qn 13) (Qo (Qp (Qq (Qr Qu 57343))))),Qb 9 true (Qv 15),Qa (Qv 15) (Qm (Qn 12) (Qo (Qp (Qq (Qs true)))) (Qn 14)),Qa (Qv 16) (Qm (Qn 9) (Qn 15) (Qo (Qp (Qq (Qs false))))),Qa (Qv 2) (Qd (Qn 16))]
def Wrb:MC:=.r0 Yil
def Yim:MC:=.seq Wra (.seq Wrb .ret)
attribute [go_sem] Yik Yil
theorem W91:KK QP 179 f179 [] Yim [(Q1 2)] 17:=by refine⟨func179,?_,?_,?_,?_⟩<;>kernel_rfl
theorem Wrc:Xaa QP 179=true:=by kernel_rfl
theorem Wrd (h:GI QP gp [(Q1 2)] res 17 Yim args):Does QP gp 179 args res:=W91.i Wrc h
end Go.Fw.L07
