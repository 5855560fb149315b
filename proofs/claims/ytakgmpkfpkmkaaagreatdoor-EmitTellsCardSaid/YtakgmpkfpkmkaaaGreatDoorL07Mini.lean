/- Small codes. -/
import Derived.Test.YtakgmpkfpkmkaaaGreatDoorFd
import Derived.Test.YtakgmpkfpkmkaaaGreatDoorProg
set_option linter.all false
namespace Go.Fw.L07
open Go Go.Fw
open Go.Proofs.Tryz renaming prog->QP
open Go.Proofs.Tryz (f10 f108 f109 f11 f110 f113 f114 f115 f116 f12 f120 f121 f122 f125 f127 f128 f129 f13 f130 f14 f141 f142 f143 f144 f145 f146 f147 f148 f15 f153 f155 f156 f16 f166 f167 f168 f169 f17 f171 f172 f177 f178 f18 f187 f188 f189 f190 f191 f192 f198 f20 f203 f204 f205 f206 f208 f228 f229 f23 f24 f26 f3 f32 f33 f34 f35 f43 f44 f45 f46 f47 f50 f51 f54 f56 f57 f61 f62 f63 f71 f72 f74 f75 f76 f82 f83 f84 f85 f88 f9 f90 func10 func108 func109 func11 func110 func113 func114 func115 func116 func12 func120 func121 func122 func125 func127 func128 func129 func13 func130 func14 func141 func142 func143 func144 func145 func146 func147 func148 func15 func153 func155 func156 func16 func166 func167 func168 func169 func17 func171 func172 func177 func178 func18 func187 func188 func189 func190 func191 func192 func198 func20 func203 func204 func205 func206 func208 func228 func229 func23 func24 func26 func3 func32 func33 func34 func35 func43 func44 func45 func46 func47 func50 func51 func54 func56 func57 func61 func62 func63 func71 func72 func74 func75 func76 func82 func83 func84 func85 func88 func9 func90)
open Go.Fw.MO renaming op->Qa,chk->Qb,opx->Qc
open Go.Fw.MOp renaming mv->Qd,bin->Qe,load->Qf,fad->Qg,call->Qh,ext->Qi,iad->Qj,len->Qk,store->Ql,pick->Qm,ibox->Q2,alloc->Q5,bslice->Q6,build->Q9,nck->QB,not->QC,app->QE,callv->QF,eqs->QH,slcS->QL,mkI->QM,mupd->QN,box->QS,mkF->QT,bslO->QV,mkMv->QW,mkM->QY,tas->QZ
open Go.Fw.Opd renaming t->Qn,c->Qo
open Go.Fw.V renaming one->Qp
open Go.Fw.A renaming d->Qq
open Go.Fw.D renaming int->Qr,bool->Qs,str->Q1,sl->QA,nilF->QJ,fn->QX
open Go.Fw.Leaf renaming i->Qt,s->Q4
open Go.IntKind renaming i64->Qu
open Option renaming some->Qv
open _root_.ByteArray renaming mk->Qw
open Go.BinOp renaming add->Qx,lss->Qy,eql->Qz,gtr->Q7,neq->Q8,geq->QD,sub->QI,rem->QK,leq->QO,mul->QR,quo->QU
open Go.Fw.RV renaming t->Q0,cell->QG
open Go.Fw.MC renaming exit->Q3
variable {gp:Heap} {args:List V} {res:V} {pre:List Ch} {R:V->List Ch->Prop}
def Wxr:=[Qa (Qv 2) (QS (Qn 0)),Qa (Qv 4) (Qd (Qo (Qp (Qq (Qs false)))))]
def Je0:MC:=.r0 Wxr
def Wxs:=[Qa (Qv 18) (Qh 9 []),Qa (Qv 5) (Qd (Qn 18))]
def Je1:MC:=.r0 Wxs
def Wxt:=[Qa (Qv 19) (Qf 2 true (Qn 2)),Qa (Qv 20) (Qd (Qn 1)),Qa (Qv 21) (Qh 10 [(Qn 19),(Qn 20)]),Qa none (Ql 2 (Qn 2) (Qn 21))]
def Je2:MC:=.r0 Wxt
def Wxu:=[Qa (Qv 23) (Qf 2 true (Qn 2)),Qa (Qv 24) (Qh 11 [(Qn 23)]),Qa (Qv 22) (Qd (Qn 24)),Qa (Qv 25) (Qi (Qn 22) 0),Qa (Qv 26) (Qi (Qn 22) 1),Qa (Qv 6) (Qd (Qn 25)),Qa (Qv 7) (Qd (Qn 26))]
def Je3:MC:=.r0 Wxu
def Wxv:=[Qa (Qv 28) (Qf 2 true (Qn 2)),Qa (Qv 29) (Qh 12 [(Qn 28)]),Qa (Qv 27) (Qd (Qn 29)),Qa (Qv 30) (Qi (Qn 27) 0),Qa (Qv 31) (Qi (Qn 27) 1),Qa (Qv 8) (Qd (Qn 30)),Qa (Qv 9) (Qd (Qn 31))]
def Je4:MC:=.r0 Wxv
def Wxw:=[Qa (Qv 33) (Qf 2 true (Qn 2)),Qa (Qv 34) (Qh 13 [(Qn 33)]),Qa (Qv 32) (Qd (Qn 34)),Qa (Qv 35) (Qi (Qn 32) 0),Qa (Qv 36) (Qi (Qn 32) 1),Qa (Qv 10) (Qd (Qn 35)),Qa (Qv 11) (Qd (Qn 36))]
def Je5:MC:=.r0 Wxw
def Wxx:=[Qa (Qv 38) (Qf 2 true (Qn 2)),Qa (Qv 39) (Qh 14 [(Qn 38)]),Qa (Qv 37) (Qd (Qn 39)),Qa (Qv 40) (Qi (Qn 37) 0),Qa (Qv 41) (Qi (Qn 37) 1),Qa (Qv 12) (Qd (Qn 40)),Qa (Qv 13) (Qd (Qn 41))]
def Je6:MC:=.r0 Wxx
def Wxy:=[Qa (Qv 43) (Qf 2 true (Qn 2)),Qa (Qv 44) (Qh 15 [(Qn 43)]),Qa (Qv 42) (Qd (Qn 44)),Qa (Qv 45) (Qi (Qn 42) 0),Qa (Qv 46) (Qi (Qn 42) 1),Qa (Qv 14) (Qd (Qn 45)),Qa (Qv 15) (Qd (Qn 46))]
def Je7:MC:=.r0 Wxy
def Wxz:=[Qa (Qv 48) (Qf 2 true (Qn 2)),Qa (Qv 49) (Qh 16 [(Qn 48)]),Qa (Qv 47) (Qd (Qn 49)),Qa (Qv 50) (Qi (Qn 47) 0),Qa (Qv 51) (Qi (Qn 47) 1),Qa (Qv 16) (Qd (Qn 50)),Qa (Qv 17) (Qd (Qn 51))]
def Je8:MC:=.r0 Wxz
def Wx0:=[Qa (Qv 52) (Qd (Qn 5)),Qa (Qv 53) (Qd (Qn 52)),Qb 53 true (Qv 54),Qa (Qv 54) (Qd (Qn 6)),Qb 53 true (Qv 55),Qa (Qv 55) (Qd (Qn 8)),Qb 53 true (Qv 56),Qa (Qv 56) (Qe Q4 Qz (Qn 54) (Qn 55)),Qa (Qv 57) (Qm (Qn 53) (Qn 56) (Qo (Qp (Qq (Qs false))))),Qa (Qv 58) (Qd (Qn 57)),Qb 58 true (Qv 59),Qa (Qv 59) (Qd (Qn 7)),Qb 58 true (Qv 60),Qa (Qv 60) (Qd (Qn 9)),Qb 58 true (Qv 61),Qa (Qv 61) (Qe Qt Qz (Qn 59) (Qn 60)),Qa (Qv 62) (Qm (Qn 58) (Qn 61) (Qo (Qp (Qq (Qs false))))),Qa (Qv 63) (Qd (Qn 62)),Qb 63 true (Qv 64),Qa (Qv 64) (Qd (Qn 10)),Qb 63 true (Qv 65),Qa (Qv 65) (Qd (Qn 12)),Qb 63 true (Qv 66),Qa (Qv 66) (Qh 17 [(Qn 64),(Qn 65)]),Qa (Qv 67) (Qm (Qn 63) (Qn 66) (Qo (Qp (Qq (Qs false))))),Qa (Qv 68) (Qd (Qn 67)),Qb 68 true (Qv 69),Qa (Qv 69) (Qd (Qn 11)),Qb 68 true (Qv 70),Qa (Qv 70) (Qd (Qn 13)),Qb 68 true (Qv 71),Qa (Qv 71) (Qe Qt Qz (Qn 69) (Qn 70)),Qa (Qv 72) (Qm (Qn 68) (Qn 71) (Qo (Qp (Qq (Qs false))))),Qa (Qv 73) (Qd (Qn 72)),Qb 73 true (Qv 74),Qa (Qv 74) (Qd (Qn 14)),Qb 73 true (Qv 75),Qa (Qv 75) (Qd (Qn 16)),Qb 73 true (Qv 76),Qa (Qv 76) (Qe Qt Qz (Qn 74) (Qn 75)),Qa (Qv 77) (Qm (Qn 73) (Qn 76) (Qo (Qp (Qq (Qs false))))),Qa (Qv 78) (Qd (Qn 77)),Qb 78 true (Qv 79),Qa (Qv 79) (Qd (Qn 15)),Qb 78 true (Qv 80),Qa (Qv 80) (Qd (Qn 17)),Qb 78 true (Qv 81),Qa (Qv 81) (Qe Qt Qz (Qn 79) (Qn 80)),Qa (Qv 82) (Qm (Qn 78) (Qn 81) (Qo (Qp (Qq (Qs false))))),Qa (Qv 4) (Qd (Qn 82))]
def Je9:MC:=.r0 Wx0
def Wx1:MC:=.seq Je6 (.seq Je7 (.seq Je8 (.seq Je9 .ret)))
def Wx2:MC:=.seq Je3 (.seq Je4 (.seq Je5 Wx1))
def Yyn:MC:=.seq Je0 (.seq Je1 (.seq Je2 Wx2))
attribute [go_sem] Wxr Wxs Wxt Wxu Wxv Wxw Wxx Wxy Wxz Wx0
theorem Jjj:KK QP 3 f3 [] Yyn [(Q0 4)] 83:=by refine⟨func3,?_,?_,?_,?_⟩<;>kernel_rfl
theorem Jfa:Xaa QP 3=true:=by kernel_rfl
theorem Jfb (h:GI QP gp [(Q0 4)] res 83 Yyn args):Does QP gp 3 args res:=Jjj.i Jfa h
def Wx3:=[Qa (Qv 0) (Qd (Qo (Qp (Qq (Qs false)))))]
def Jfc:MC:=.r0 Wx3
def Wx4:=[Qa (Qv 10) (Q6 1 [(Qr Qu 0)] 2 [(0,(Qo (Qp (Qq (Qr Qu 1))))),(1,(Qo (Qp (Qq (Qr Qu 0)))))]),Qa (Qv 11) (Q9 [(Qr Qu 0),(Qr Qu 0),(Qr Qu 0),(Q1 (Qw #[])),(QA []),(QA [])] [(0,(1,(Qo (Qp (Qq (Qr Qu 1)))))),(5,(1,(Qn 10)))]),Qa (Qv 12) (Q9 [(Qr Qu 0),(Qr Qu 0),(Q1 (Qw #[]))] [(0,(1,(Qo (Qp (Qq (Qr Qu 3)))))),(2,(1,(Qo (Qp (Qq (Q1 (Qw #[107])))))))]),Qa (Qv 13) (Q6 3 [(Qr Qu 0),(Qr Qu 0),(Q1 (Qw #[]))] 1 [(0,(Qn 12))]),Qa (Qv 14) (Q6 1 [(Qr Qu 0)] 1 [(0,(Qo (Qp (Qq (Qr Qu 2)))))]),Qa (Qv 15) (Q9 [(Qr Qu 0),(Qr Qu 0),(Qr Qu 0),(Q1 (Qw #[])),(QA []),(QA [])] [(0,(1,(Qo (Qp (Qq (Qr Qu 2)))))),(4,(1,(Qn 13))),(5,(1,(Qn 14)))]),Qa (Qv 16) (Q9 [(Qr Qu 0),(Qr Qu 0),(Q1 (Qw #[]))] [(0,(1,(Qo (Qp (Qq (Qr Qu 2)))))),(1,(1,(Qo (Qp (Qq (Qr Qu 5))))))]),Qa (Qv 17) (Q9 [(Qr Qu 0),(Qr Qu 0),(Qr Qu 0),(Q1 (Qw #[])),(QA []),(QA [])] [(1,(3,(Qn 16)))]),Qa (Qv 18) (Q6 6 [(Qr Qu 0),(Qr Qu 0),(Qr Qu 0),(Q1 (Qw #[])),(QA []),(QA [])] 3 [(0,(Qn 11)),(1,(Qn 15)),(2,(Qn 17))]),Qa (Qv 19) (Q9 [(Qr Qu 0),(QA [])] [(1,(1,(Qn 18)))]),Qa (Qv 1) (Q5 [(Qr Qu 0),(QA [])]),Qa none (Ql 2 (Qn 1) (Qn 19))]
def Jfd:MC:=.r0 Wx4
def Wx5:=[Qa (Qv 21) (Qf 2 true (Qn 1)),Qa (Qv 22) (Qh 11 [(Qn 21)]),Qa (Qv 20) (Qd (Qn 22)),Qa (Qv 23) (Qi (Qn 20) 0),Qa (Qv 24) (Qi (Qn 20) 1),Qa (Qv 2) (Qd (Qn 23)),Qa (Qv 3) (Qd (Qn 24))]
def Jfe:MC:=.r0 Wx5
def Wx6:=[Qa (Qv 26) (Qf 2 true (Qn 1)),Qa (Qv 27) (Qh 13 [(Qn 26)]),Qa (Qv 25) (Qd (Qn 27)),Qa (Qv 28) (Qi (Qn 25) 0),Qa (Qv 29) (Qi (Qn 25) 1),Qa (Qv 4) (Qd (Qn 28)),Qa (Qv 5) (Qd (Qn 29))]
def Jff:MC:=.r0 Wx6
def Wx7:=[Qa (Qv 31) (Qf 2 true (Qn 1)),Qa (Qv 32) (Qh 15 [(Qn 31)]),Qa (Qv 30) (Qd (Qn 32)),Qa (Qv 33) (Qi (Qn 30) 0),Qa (Qv 34) (Qi (Qn 30) 1),Qa (Qv 6) (Qd (Qn 33)),Qa (Qv 7) (Qd (Qn 34))]
def Jfg:MC:=.r0 Wx7
def Wx8:=[Qa (Qv 36) (Qg 1 (Qn 1)),Qa (Qv 37) (Qf 1 false (Qn 36)),Qa (Qv 38) (Q9 [(Qr Qu 0),(QA [])] [(0,(1,(Qo (Qp (Qq (Qr Qu 1)))))),(1,(1,(Qn 37)))]),Qa (Qv 39) (Qh 11 [(Qn 38)]),Qa (Qv 35) (Qd (Qn 39)),Qa (Qv 40) (Qi (Qn 35) 0),Qa (Qv 41) (Qi (Qn 35) 1),Qa (Qv 8) (Qd (Qn 40)),Qa (Qv 9) (Qd (Qn 41))]
def Jfh:MC:=.r0 Wx8
def Wx9:=[Qa (Qv 42) (Qd (Qn 2)),Qa (Qv 43) (Qe Q4 Qz (Qn 42) (Qo (Qp (Qq (Q1 (Qw #[38,97,49,10,45,10,32,32,34,107,34,58,32,53,10,45,32,42,97,49,10])))))),Qa (Qv 44) (Qd (Qn 43)),Qb 44 true (Qv 45),Qa (Qv 45) (Qd (Qn 3)),Qb 44 true (Qv 46),Qa (Qv 46) (Qe Qt Qz (Qn 45) (Qo (Qp (Qq (Qr Qu 0))))),Qa (Qv 47) (Qm (Qn 44) (Qn 46) (Qo (Qp (Qq (Qs false))))),Qa (Qv 48) (Qd (Qn 47)),Qb 48 true (Qv 49),Qa (Qv 49) (Qd (Qn 4)),Qb 48 true (Qv 50),Qa (Qv 50) (Qk Qt (Qn 49)),Qb 48 true (Qv 51),Qa (Qv 51) (Qe Qt Qz (Qn 50) (Qo (Qp (Qq (Qr Qu 4))))),Qa (Qv 52) (Qm (Qn 48) (Qn 51) (Qo (Qp (Qq (Qs false))))),Qa (Qv 53) (Qd (Qn 52)),Qb 53 true (Qv 54),Qa (Qv 54) (Qd (Qn 5)),Qb 53 true (Qv 55),Qa (Qv 55) (Qe Qt Qz (Qn 54) (Qo (Qp (Qq (Qr Qu 0))))),Qa (Qv 56) (Qm (Qn 53) (Qn 55) (Qo (Qp (Qq (Qs false))))),Qa (Qv 57) (Qd (Qn 56)),Qb 57 true (Qv 58),Qa (Qv 58) (Qd (Qn 6)),Qb 57 true (Qv 59),Qa (Qv 59) (Qd (Qn 2)),Qb 57 true (Qv 60),Qa (Qv 60) (Qk Q4 (Qn 59)),Qb 57 true (Qv 61),Qa (Qv 61) (Qe Qt Qz (Qn 58) (Qn 60)),Qa (Qv 62) (Qm (Qn 57) (Qn 61) (Qo (Qp (Qq (Qs false))))),Qa (Qv 63) (Qd (Qn 62)),Qb 63 true (Qv 64),Qa (Qv 64) (Qd (Qn 7)),Qb 63 true (Qv 65),Qa (Qv 65) (Qe Qt Qz (Qn 64) (Qo (Qp (Qq (Qr Qu 0))))),Qa (Qv 66) (Qm (Qn 63) (Qn 65) (Qo (Qp (Qq (Qs false))))),Qa (Qv 67) (Qd (Qn 66)),Qb 67 true (Qv 68),Qa (Qv 68) (Qd (Qn 9)),Qb 67 true (Qv 69),Qa (Qv 69) (Qe Qt Qz (Qn 68) (Qo (Qp (Qq (Qr Qu 72))))),Qa (Qv 70) (Qm (Qn 67) (Qn 69) (Qo (Qp (Qq (Qs false))))),Qa (Qv 0) (Qd (Qn 70))]
def Jfi:MC:=.r0 Wx9
def Wya:MC:=.seq Jff (.seq Jfg (.seq Jfh (.seq Jfi .ret)))
def Yyo:MC:=.seq Jfc (.seq Jfd (.seq Jfe Wya))
attribute [go_sem] Wx3 Wx4 Wx5 Wx6 Wx7 Wx8 Wx9
theorem Jjk:KK QP 9 f9 [] Yyo [(Q0 0)] 71:=by refine⟨func9,?_,?_,?_,?_⟩<;>kernel_rfl
theorem Jfj:Xaa QP 9=true:=by kernel_rfl
theorem Jfk (h:GI QP gp [(Q0 0)] res 71 Yyo args):Does QP gp 9 args res:=Jjk.i Jfj h
def Yyp:=[Qa (Qv 2) (QS (Qn 0)),Qa (Qv 4) (Q5 [(Qr Qu 0),(QA [])])]
def Wyb:MC:=.r0 Yyp
def Yyq:=[Qa (Qv 7) (Qf 2 true (Qn 2)),Qa (Qv 8) (Qh 24 [(Qn 7)]),Qa none (Ql 2 (Qn 2) (Qn 8))]
def Wyc:MC:=.r0 Yyq
def Yyr:=[Qa (Qv 10) (Qf 2 true (Qn 2)),Qa (Qv 11) (Qh 25 [(Qn 10)]),Qa (Qv 9) (Qd (Qn 11)),Qa (Qv 12) (Qi (Qn 9) 0),Qa (Qv 13) (Qi (Qn 9) 1),Qa (Qv 5) (Q5 [(Qr Qu 0),(QA [])]),Qa none (Ql 2 (Qn 5) (Qn 12)),Qa (Qv 6) (Qd (Qn 13))]
def Wyd:MC:=.r0 Yyr
def Yys:=[Qa (Qv 14) (Qd (Qn 1)),Qa (Qv 15) (Qd (Qn 14)),Qb 15 true (Qv 16),Qa (Qv 16) (Qd (Qn 6)),Qb 15 true (Qv 17),Qa (Qv 17) (Qe Qt Qz (Qn 16) (Qo (Qp (Qq (Qr Qu 0))))),Qa (Qv 18) (Qm (Qn 15) (Qn 17) (Qo (Qp (Qq (Qs false)))))]
def Wye:MC:=.r0 Yys
def Yyt:=[Qa (Qv 19) (Qf 2 true (Qn 5)),Qa none (Ql 2 (Qn 4) (Qn 19))]
def Wyf:MC:=.r0 Yyt
def X4v:=[Qa (Qv 20) (Qf 2 true (Qn 2)),Qa none (Ql 2 (Qn 4) (Qn 20))]
def Y9w:MC:=.r0 X4v
def Y9x:MC:=.seq Wyd (.seq (.seq Wye (.cond (Qn 18) (.seq Wyf .ret) .skip)) (.seq Y9w .ret))
def X4w:MC:=.seq Wyb (.seq Wyc Y9x)
attribute [go_sem] Yyp Yyq Yyr Yys Yyt X4v
theorem Jfl:KK QP 10 f10 [] X4w [(QG 4 2 true)] 21:=by refine⟨func10,?_,?_,?_,?_⟩<;>kernel_rfl
theorem Wyg:Xaa QP 10=true:=by kernel_rfl
theorem Wyh (h:GI QP gp [(QG 4 2 true)] res 21 X4w args):Does QP gp 10 args res:=Jfl.i Wyg h
def Yyu:=[Qa (Qv 1) (Q2 (Qn 0)),Qa (Qv 2) (Qd (Qo (Qp (Qq (Q1 (Qw #[])))))),Qa (Qv 3) (Qd (Qo (Qp (Qq (Qr Qu 0)))))]
def Wyi:MC:=.r0 Yyu
def Yyv:=[Qa (Qv 10) (Qf 2 true (Qn 1)),Qa (Qv 11) (Qh 26 [(Qn 10)]),Qa (Qv 9) (Qd (Qn 11)),Qa (Qv 12) (Qi (Qn 9) 0),Qa (Qv 13) (Qi (Qn 9) 1),Qa (Qv 4) (Qd (Qn 12)),Qa (Qv 5) (Qd (Qn 13))]
def Wyj:MC:=.r0 Yyv
def Yyw:=[Qa (Qv 6) (MOp.bldN 56 5)]
def Wyk:MC:=.r0 Yyw
def Yyx:=[Qa (Qv 14) (Qd (Qn 4)),Qa (Qv 15) (Qk Qt (Qn 14)),Qa (Qv 16) (Qd (Qo (Qp (Qq (Qr Qu 0)))))]
def Wyl:MC:=.r0 Yyx
def Yyy:=[Qa (Qv 17) (Qe Qt Qy (Qn 16) (Qn 15))]
def Wym:MC:=.r0 Yyy
def Yyz:=[Qa (Qv 18) (Qj 1 (Qn 14) (Qn 16)),Qa (Qv 19) (Qf 1 false (Qn 18)),Qa (Qv 8) (Qd (Qn 19))]
def Wyn:MC:=.r0 Yyz
def Yy0:=[Qa (Qv 20) (Qd (Qn 8)),Qa (Qv 21) (Qe Q4 Qx (Qn 20) (Qo (Qp (Qq (Q1 (Qw #[10])))))),Qa (Qv 22) (Qh 27 [(Qn 6),(Qn 21)])]
def Wyo:MC:=.r0 Yy0
def X4x:=[Qa (Qv 23) (Qe Qt Qx (Qn 16) (Qo (Qp (Qq (Qr Qu 1))))),Qa (Qv 16) (Qd (Qn 23))]
def Y9y:MC:=.r0 X4x
def Y9z:MC:=.seq Wym (.seq (.cond (Qn 17) .skip (Q3 0)) (.seq (.blk 1 (.seq Wyn Wyo)) Y9y))
def X4y:=[Qa (Qv 24) (Qh 28 [(Qn 6)]),Qa (Qv 25) (Qd (Qn 5)),Qa (Qv 2) (Qd (Qn 24)),Qa (Qv 3) (Qd (Qn 25))]
def Y90:MC:=.r0 X4y
def Y91:MC:=.seq Wyk (.seq (.seq Wyl (.blk 0 (.loop Y9z))) (.seq Y90 .ret))
def X4z:MC:=.seq Wyi (.seq Wyj Y91)
attribute [go_sem] Yyu Yyv Yyw Yyx Yyy Yyz Yy0 X4x X4y
theorem Jfm:KK QP 11 f11 [1] X4z [(Q0 2),(Q0 3)] 26:=by refine⟨func11,?_,?_,?_,?_⟩<;>kernel_rfl
theorem Wyp:Xaa QP 11=true:=by kernel_rfl
theorem Wyq (h:GI QP gp [(Q0 2),(Q0 3)] res 26 X4z args):Does QP gp 11 args res:=Jfm.i Wyp h
def Yy1:=[Qa (Qv 1) (Q2 (Qn 0)),Qa (Qv 2) (Qd (Qo (Qp (Qq (Q1 (Qw #[])))))),Qa (Qv 3) (Qd (Qo (Qp (Qq (Qr Qu 0)))))]
def Wyr:MC:=.r0 Yy1
def Yy2:=[Qa (Qv 9) (Qf 2 true (Qn 1)),Qa (Qv 10) (Qh 14 [(Qn 9)]),Qa (Qv 8) (Qd (Qn 10)),Qa (Qv 11) (Qi (Qn 8) 0),Qa (Qv 12) (Qi (Qn 8) 1),Qa (Qv 4) (Qd (Qn 11)),Qa (Qv 5) (Qd (Qn 12))]
def Wys:MC:=.r0 Yy2
def Yy3:=[Qa (Qv 6) (Qd (Qo (Qp (Qq (Q1 (Qw #[]))))))]
def Wyt:MC:=.r0 Yy3
def Yy4:=[Qa (Qv 7) (Qd (Qo (Qp (Qq (Qr Qu 0)))))]
def Wyu:MC:=.r0 Yy4
def Yy5:=[Qa (Qv 13) (Qd (Qn 7)),Qa (Qv 14) (Qd (Qn 4)),Qa (Qv 15) (Qk Qt (Qn 14)),Qa (Qv 16) (Qe Qt Qy (Qn 13) (Qn 15))]
def Wyv:MC:=.r0 Yy5
def Yy6:=[Qa (Qv 19) (Qd (Qn 6)),Qa (Qv 20) (Qd (Qn 4)),Qa (Qv 21) (Qd (Qn 7)),Qa (Qv 22) (Qj 1 (Qn 20) (Qn 21)),Qa (Qv 23) (Qf 1 false (Qn 22)),Qa (Qv 24) (Qe Q4 Qx (Qn 19) (Qn 23)),Qa (Qv 25) (Qe Q4 Qx (Qn 24) (Qo (Qp (Qq (Q1 (Qw #[10])))))),Qa (Qv 6) (Qd (Qn 25))]
def Wyw:MC:=.r0 Yy6
def X40:=[Qa (Qv 17) (Qd (Qn 7)),Qa (Qv 18) (Qe Qt Qx (Qn 17) (Qo (Qp (Qq (Qr Qu 1))))),Qa (Qv 7) (Qd (Qn 18))]
def Y92:MC:=.r0 X40
def Y93:MC:=.seq Wyu (.blk 0 (.loop (.seq (.seq Wyv (.cond (Qn 16) .skip (Q3 0))) (.seq (.blk 1 Wyw) Y92))))
def X41:=[Qa (Qv 26) (Qd (Qn 6)),Qa (Qv 27) (Qd (Qn 5)),Qa (Qv 2) (Qd (Qn 26)),Qa (Qv 3) (Qd (Qn 27))]
def Y94:MC:=.r0 X41
def Y95:MC:=.seq Wys (.seq Wyt (.seq Y93 (.seq Y94 .ret)))
def X42:MC:=.seq Wyr Y95
attribute [go_sem] Yy1 Yy2 Yy3 Yy4 Yy5 Yy6 X40 X41
theorem Jfn:KK QP 12 f12 [1] X42 [(Q0 2),(Q0 3)] 28:=by refine⟨func12,?_,?_,?_,?_⟩<;>kernel_rfl
theorem Wyx:Xaa QP 12=true:=by kernel_rfl
theorem Wyy (h:GI QP gp [(Q0 2),(Q0 3)] res 28 X42 args):Does QP gp 12 args res:=Jfn.i Wyx h
def Yy7:=[Qa (Qv 1) (Q2 (Qn 0)),Qa (Qv 2) (Qd (Qo (Qp A.nil))),Qa (Qv 3) (Qd (Qo (Qp (Qq (Qr Qu 0)))))]
def Wyz:MC:=.r0 Yy7
def Yy8:=[Qa (Qv 4) (Qf 2 true (Qn 1)),Qa (Qv 5) (Qh 26 [(Qn 4)]),Qa (Qv 6) (Qi (Qn 5) 0),Qa (Qv 7) (Qi (Qn 5) 1),Qa (Qv 2) (Qd (Qn 6)),Qa (Qv 3) (Qd (Qn 7))]
def Wy0:MC:=.r0 Yy8
def Yy9:MC:=.seq Wyz (.seq Wy0 .ret)
attribute [go_sem] Yy7 Yy8
theorem Jfo:KK QP 13 f13 [1] Yy9 [(Q0 2),(Q0 3)] 8:=by refine⟨func13,?_,?_,?_,?_⟩<;>kernel_rfl
theorem Wy1:Xaa QP 13=true:=by kernel_rfl
theorem Wy2 (h:GI QP gp [(Q0 2),(Q0 3)] res 8 Yy9 args):Does QP gp 13 args res:=Jfo.i Wy1 h
def Yza:=[Qa (Qv 1) (Q2 (Qn 0)),Qa (Qv 2) (Qd (Qo (Qp A.nil))),Qa (Qv 3) (Qd (Qo (Qp (Qq (Qr Qu 0)))))]
def Wy3:MC:=.r0 Yza
def Yzb:=[Qa (Qv 19) (Qf 2 true (Qn 1)),Qa (Qv 20) (Qh 29 [(Qn 19)]),Qa (Qv 18) (Qd (Qn 20)),Qa (Qv 21) (Qi (Qn 18) 0),Qa (Qv 22) (Qi (Qn 18) 1),Qa (Qv 4) (Qd (Qn 21)),Qa (Qv 5) (Qd (Qn 22))]
def Wy4:MC:=.r0 Yzb
def Yzc:=[Qa (Qv 23) (Qd (Qn 5)),Qa (Qv 24) (Qe Qt Q8 (Qn 23) (Qo (Qp (Qq (Qr Qu 0)))))]
def Wy5:MC:=.r0 Yzc
def Yzd:=[Qa (Qv 25) (Qd (Qn 5)),Qa (Qv 2) (Qd (Qo (Qp A.nil))),Qa (Qv 3) (Qd (Qn 25))]
def Wy6:MC:=.r0 Yzd
def Yze:=[Qa (Qv 6) (Qd (Qo (Qp (Qq (Qr Qu 0)))))]
def Wy7:MC:=.r0 Yze
def X43:=[Qa (Qv 26) (Qd (Qn 6)),Qa (Qv 27) (Qd (Qn 4)),Qa (Qv 28) (Qk Qt (Qn 27)),Qa (Qv 29) (Qe Qt Qy (Qn 26) (Qn 28))]
def Y96:MC:=.r0 X43
def X44:=[Qa (Qv 32) (Qd (Qn 4)),Qa (Qv 33) (Qd (Qn 6)),Qa (Qv 34) (Qj 1 (Qn 32) (Qn 33)),Qa (Qv 35) (Qf 1 false (Qn 34)),Qa (Qv 36) (Qe Qt Q7 (Qn 35) (Qo (Qp (Qq (Qr Qu 24))))),Qa (Qv 37) (Qd (Qn 36)),Qb 37 false (Qv 38),Qa (Qv 38) (Qd (Qn 4)),Qb 37 false (Qv 39),Qa (Qv 39) (Qd (Qn 6)),Qb 37 false (Qv 40),Qa (Qv 40) (Qj 1 (Qn 38) (Qn 39)),Qb 37 false (Qv 41),Qa (Qv 41) (Qf 1 false (Qn 40)),Qb 37 false (Qv 42),Qa (Qv 42) (Qe Qt Qz (Qn 41) (Qo (Qp (Qq (Qr Qu 24))))),Qb 37 false (Qv 43),Qa (Qv 43) (Qd (Qn 42)),Qb 43 true (Qv 44),Qa (Qv 44) (Qg 1 (Qn 1)),Qb 43 true (Qv 45),Qa (Qv 45) (Qf 1 false (Qn 44)),Qb 43 true (Qv 46),Qa (Qv 46) (Qd (Qn 6)),Qb 43 true (Qv 47),Qa (Qv 47) (Qj 6 (Qn 45) (Qn 46)),Qb 43 true (Qv 48),Qa (Qv 48) (Qg 5 (Qn 47)),Qb 43 true (Qv 49),Qa (Qv 49) (Qf 1 false (Qn 48)),Qb 43 true (Qv 50),Qa (Qv 50) (Qk Qt (Qn 49)),Qb 43 true (Qv 51),Qa (Qv 51) (Qe Qt Q7 (Qn 50) (Qo (Qp (Qq (Qr Qu 0))))),Qb 37 false (Qv 52),Qa (Qv 52) (Qm (Qn 43) (Qn 51) (Qo (Qp (Qq (Qs false))))),Qa (Qv 53) (Qm (Qn 37) (Qo (Qp (Qq (Qs true)))) (Qn 52))]
def Y97:MC:=.r0 X44
def X45:=[Qa (Qv 2) (Qd (Qo (Qp A.nil))),Qa (Qv 3) (Qd (Qo (Qp (Qq (Qr Qu 73)))))]
def Y98:MC:=.r0 X45
def X46:=[Qa (Qv 30) (Qd (Qn 6)),Qa (Qv 31) (Qe Qt Qx (Qn 30) (Qo (Qp (Qq (Qr Qu 1))))),Qa (Qv 6) (Qd (Qn 31))]
def Y99:MC:=.r0 X46
def Waa:MC:=.seq (.seq Y96 (.cond (Qn 29) .skip (Q3 0))) (.seq (.blk 1 (.seq Y97 (.cond (Qn 53) (.seq Y98 .ret) .skip))) Y99)
def X47:=[Qa (Qv 55) (Qf 2 true (Qn 1)),Qa (Qv 56) (Qh 30 [(Qn 55)]),Qa (Qv 54) (Qd (Qn 56)),Qa (Qv 57) (Qi (Qn 54) 0),Qa (Qv 58) (Qi (Qn 54) 1),Qa (Qv 7) (Qd (Qn 57)),Qa (Qv 8) (Qd (Qn 58))]
def Wab:MC:=.r0 X47
def X48:=[Qa (Qv 60) (Qf 2 true (Qn 1)),Qa (Qv 61) (Qh 31 [(Qn 60)]),Qa (Qv 59) (Qd (Qn 61)),Qa (Qv 62) (Qi (Qn 59) 0),Qa (Qv 63) (Qi (Qn 59) 1),Qa (Qv 9) (Qd (Qn 62)),Qa (Qv 10) (Qd (Qn 63))]
def Wac:MC:=.r0 X48
def X49:=[Qa (Qv 11) (Qd (Qo (Qp (Qq (Qr Qu 0)))))]
def Wad:MC:=.r0 X49
def X5a:=[Qa (Qv 12) (Qd (Qo (Qp (Qq (Qr Qu 0)))))]
def Wae:MC:=.r0 X5a
def X5b:=[Qa (Qv 64) (Qd (Qn 12)),Qa (Qv 65) (Qd (Qn 9)),Qa (Qv 66) (Qk Qt (Qn 65)),Qa (Qv 67) (Qe Qt Qy (Qn 64) (Qn 66))]
def Waf:MC:=.r0 X5b
def X5c:=[Qa (Qv 70) (Qd (Qn 7)),Qa (Qv 71) (Qd (Qn 12)),Qa (Qv 72) (Qj 1 (Qn 70) (Qn 71)),Qa (Qv 73) (Qf 1 false (Qn 72)),Qa (Qv 74) (Qe Qt Q7 (Qn 73) (Qo (Qp (Qq (Qr Qu 0)))))]
def Wag:MC:=.r0 X5c
def X5d:=[Qa (Qv 75) (Qd (Qn 11)),Qa (Qv 76) (Qe Qt Qx (Qn 75) (Qo (Qp (Qq (Qr Qu 1))))),Qa (Qv 11) (Qd (Qn 76))]
def Wah:MC:=.r0 X5d
def X5e:=[Qa (Qv 77) (Qd (Qn 11)),Qa (Qv 78) (Qd (Qn 9)),Qa (Qv 79) (Qd (Qn 12)),Qa (Qv 80) (Qj 1 (Qn 78) (Qn 79)),Qa (Qv 81) (Qf 1 false (Qn 80)),Qa (Qv 82) (Qe Qt Qx (Qn 77) (Qn 81)),Qa (Qv 11) (Qd (Qn 82))]
def Wai:MC:=.r0 X5e
def X5f:=[Qa (Qv 68) (Qd (Qn 12)),Qa (Qv 69) (Qe Qt Qx (Qn 68) (Qo (Qp (Qq (Qr Qu 1))))),Qa (Qv 12) (Qd (Qn 69))]
def Waj:MC:=.r0 X5f
def Wak:MC:=.seq (.blk 3 (.seq Wag (.cond (Qn 74) Wah Wai))) Waj
def X5g:=[Qa (Qv 83) (Qd (Qn 11)),Qa (Qv 84) (Qe Qt Q7 (Qn 83) (Qo (Qp (Qq (Qr Qu 200)))))]
def Wal:MC:=.r0 X5g
def X5h:=[Qa (Qv 2) (Qd (Qo (Qp A.nil))),Qa (Qv 3) (Qd (Qo (Qp (Qq (Qr Qu 71)))))]
def Wam:MC:=.r0 X5h
def X5i:=[Qa (Qv 85) (Qf 2 true (Qn 1)),Qa (Qv 86) (Qd (Qn 7)),Qa (Qv 87) (Q9 [(Qr Qu 0),(QA []),(QA []),(QA []),(QA [])] [(0,(2,(Qn 85))),(2,(1,(Qn 86)))]),Qa (Qv 88) (QS (Qn 87)),Qa (Qv 13) (Qd (Qn 88))]
def Wan:MC:=.r0 X5i
def X5j:=[Qa (Qv 90) (Qd (Qn 13)),Qa (Qv 91) (Qh 32 [(Qn 90),(Qo (Qp (Qq (Qr Qu 0))))]),Qa (Qv 89) (Qd (Qn 91)),Qa (Qv 92) (Qi (Qn 89) 0),Qa (Qv 93) (Qi (Qn 89) 1),Qa (Qv 14) (Qd (Qn 92)),Qa (Qv 15) (Qd (Qn 93))]
def Wao:MC:=.r0 X5j
def X5k:=[Qa (Qv 94) (Qd (Qn 15))]
def Wap:MC:=.r0 X5k
def X5l:=[Qa (Qv 95) (Qd (Qn 13)),Qa (Qv 96) (Qd (Qn 14)),Qa (Qv 97) (QV 1 [(Q1 (Qw #[]))] 1 [(0,(Qn 96))]),Qa (Qv 98) (QB (Qn 95)),Qa (Qv 99) (Qg 4 (Qn 98)),Qa none (Ql 1 (Qn 99) (Qn 97))]
def Waq:MC:=.r0 X5l
def X5m:=[Qa (Qv 100) (Qd (Qn 7)),Qa (Qv 101) (Qj 1 (Qn 100) (Qo (Qp (Qq (Qr Qu 0))))),Qa (Qv 102) (Qf 1 false (Qn 101)),Qa (Qv 103) (Qe Qt Q7 (Qn 102) (Qo (Qp (Qq (Qr Qu 0)))))]
def War:MC:=.r0 X5m
def X5n:=[Qa (Qv 104) (Qd (Qn 13)),Qa (Qv 105) (Qd (Qn 7)),Qa (Qv 106) (Qj 1 (Qn 105) (Qo (Qp (Qq (Qr Qu 0))))),Qa (Qv 107) (Qf 1 false (Qn 106)),Qa (Qv 108) (Qh 20 [(Qn 107)]),Qa (Qv 109) (Qe Q4 Qx (Qo (Qp (Qq (Q1 (Qw #[38,97]))))) (Qn 108)),Qa (Qv 110) (QV 1 [(Q1 (Qw #[]))] 1 [(0,(Qn 109))]),Qa (Qv 111) (QB (Qn 104)),Qa (Qv 112) (Qg 4 (Qn 111)),Qa none (Ql 1 (Qn 112) (Qn 110))]
def Was:MC:=.r0 X5n
def X5o:=[Qa (Qv 113) (Qd (Qn 13)),Qa (Qv 114) (Qh 33 [(Qn 113),(Qo (Qp (Qq (Qr Qu 0)))),(Qo (Qp (Qq (Q1 (Qw #[])))))])]
def Wat:MC:=.r0 X5o
def Wau:MC:=.cond (Qn 94) Waq (.seq (.seq War (.cond (Qn 103) Was .skip)) Wat)
def X5p:=[Qa (Qv 16) (Qd (Qo (Qp (Qq (Qr Qu 0)))))]
def Wav:MC:=.r0 X5p
def X5q:=[Qa (Qv 17) (Qd (Qo (Qp (Qq (Qr Qu 0)))))]
def Waw:MC:=.r0 X5q
def X5r:=[Qa (Qv 115) (Qd (Qn 17)),Qa (Qv 116) (Qd (Qn 13)),Qa (Qv 117) (QB (Qn 116)),Qa (Qv 118) (Qg 4 (Qn 117)),Qa (Qv 119) (Qf 1 false (Qn 118)),Qa (Qv 120) (Qk Qt (Qn 119)),Qa (Qv 121) (Qe Qt Qy (Qn 115) (Qn 120))]
def Wax:MC:=.r0 X5r
def X5s:=[Qa (Qv 124) (Qd (Qn 16)),Qa (Qv 125) (Qd (Qn 13)),Qa (Qv 126) (QB (Qn 125)),Qa (Qv 127) (Qg 4 (Qn 126)),Qa (Qv 128) (Qf 1 false (Qn 127)),Qa (Qv 129) (Qd (Qn 17)),Qa (Qv 130) (Qj 1 (Qn 128) (Qn 129)),Qa (Qv 131) (Qf 1 false (Qn 130)),Qa (Qv 132) (Qk Q4 (Qn 131)),Qa (Qv 133) (Qe Qt Qx (Qn 124) (Qn 132)),Qa (Qv 134) (Qe Qt Qx (Qn 133) (Qo (Qp (Qq (Qr Qu 1))))),Qa (Qv 16) (Qd (Qn 134))]
def Way:MC:=.r0 X5s
def X5t:=[Qa (Qv 122) (Qd (Qn 17)),Qa (Qv 123) (Qe Qt Qx (Qn 122) (Qo (Qp (Qq (Qr Qu 1))))),Qa (Qv 17) (Qd (Qn 123))]
def Waz:MC:=.r0 X5t
def Wa0:MC:=.seq Waw (.blk 4 (.loop (.seq (.seq Wax (.cond (Qn 121) .skip (Q3 4))) (.seq (.blk 5 Way) Waz))))
def X5u:=[Qa (Qv 135) (Qd (Qn 16)),Qa (Qv 136) (Qe Qt Q7 (Qn 135) (Qo (Qp (Qq (Qr Qu 8000)))))]
def Wa1:MC:=.r0 X5u
def X5v:=[Qa (Qv 2) (Qd (Qo (Qp A.nil))),Qa (Qv 3) (Qd (Qo (Qp (Qq (Qr Qu 20)))))]
def Wa2:MC:=.r0 X5v
def X5w:=[Qa (Qv 137) (Qd (Qn 13)),Qa (Qv 138) (QB (Qn 137)),Qa (Qv 139) (Qg 4 (Qn 138)),Qa (Qv 140) (Qf 1 false (Qn 139)),Qa (Qv 2) (Qd (Qn 140)),Qa (Qv 3) (Qd (Qo (Qp (Qq (Qr Qu 0)))))]
def Wa3:MC:=.r0 X5w
def Wa4:MC:=.seq Wa0 (.seq (.seq Wa1 (.cond (Qn 136) (.seq Wa2 .ret) .skip)) (.seq Wa3 .ret))
def Wa5:MC:=.seq (.seq Wap Wau) (.seq Wav Wa4)
def Yo7:MC:=.seq (.seq Wal (.cond (Qn 84) (.seq Wam .ret) .skip)) (.seq Wan (.seq Wao Wa5))
def Yo8:MC:=.seq (.seq Wae (.blk 2 (.loop (.seq (.seq Waf (.cond (Qn 67) .skip (Q3 2))) Wak)))) Yo7
def Yo9:MC:=.seq Wab (.seq Wac (.seq Wad Yo8))
def Ypa:MC:=.seq (.seq Wy5 (.cond (Qn 24) (.seq Wy6 .ret) .skip)) (.seq (.seq Wy7 (.blk 0 (.loop Waa))) Yo9)
def Xvb:MC:=.seq Wy3 (.seq Wy4 Ypa)
attribute [go_sem] Yza Yzb Yzc Yzd Yze X43 X44 X45 X46 X47 X48 X49 X5a X5b X5c X5d X5e X5f X5g X5h X5i X5j X5k X5l X5m X5n X5o X5p X5q X5r X5s X5t X5u X5v X5w
theorem Jfp:KK QP 14 f14 [1,97,110] Xvb [(Q0 2),(Q0 3)] 141:=by refine⟨func14,?_,?_,?_,?_⟩<;>kernel_rfl
theorem Wy8:Xaa QP 14=true:=by kernel_rfl
theorem Yzf (h:GI QP gp [(Q0 2),(Q0 3)] res 141 Xvb args):Does QP gp 14 args res:=Jfp.i Wy8 h
def Yzg:=[Qa (Qv 1) (Q2 (Qn 0)),Qa (Qv 2) (Qd (Qo (Qp (Qq (Qr Qu 0))))),Qa (Qv 3) (Qd (Qo (Qp (Qq (Qr Qu 0)))))]
def Wy9:MC:=.r0 Yzg
def Yzh:=[Qa (Qv 7) (Qf 2 true (Qn 1)),Qa (Qv 8) (Qh 11 [(Qn 7)]),Qa (Qv 6) (Qd (Qn 8)),Qa (Qv 9) (Qi (Qn 6) 0),Qa (Qv 10) (Qi (Qn 6) 1),Qa (Qv 4) (Qd (Qn 9)),Qa (Qv 5) (Qd (Qn 10))]
def Wza:MC:=.r0 Yzh
def Yzi:=[Qa (Qv 11) (Qd (Qn 4)),Qa (Qv 12) (Qk Q4 (Qn 11)),Qa (Qv 13) (Qd (Qn 5)),Qa (Qv 2) (Qd (Qn 12)),Qa (Qv 3) (Qd (Qn 13))]
def Wzb:MC:=.r0 Yzi
def Yzj:MC:=.seq Wy9 (.seq Wza (.seq Wzb .ret))
attribute [go_sem] Yzg Yzh Yzi
theorem Jfq:KK QP 15 f15 [1] Yzj [(Q0 2),(Q0 3)] 14:=by refine⟨func15,?_,?_,?_,?_⟩<;>kernel_rfl
theorem Wzc:Xaa QP 15=true:=by kernel_rfl
theorem Wzd (h:GI QP gp [(Q0 2),(Q0 3)] res 14 Yzj args):Does QP gp 15 args res:=Jfq.i Wzc h
def Yzk:=[Qa (Qv 1) (Q2 (Qn 0)),Qa (Qv 2) (Qd (Qo (Qp (Qq (Qr Qu 0))))),Qa (Qv 3) (Qd (Qo (Qp (Qq (Qr Qu 0)))))]
def Wze:MC:=.r0 Yzk
def Yzl:=[Qa (Qv 7) (Qf 2 true (Qn 1)),Qa (Qv 8) (Qh 12 [(Qn 7)]),Qa (Qv 6) (Qd (Qn 8)),Qa (Qv 9) (Qi (Qn 6) 0),Qa (Qv 10) (Qi (Qn 6) 1),Qa (Qv 4) (Qd (Qn 9)),Qa (Qv 5) (Qd (Qn 10))]
def Wzf:MC:=.r0 Yzl
def Yzm:=[Qa (Qv 11) (Qd (Qn 4)),Qa (Qv 12) (Qk Q4 (Qn 11)),Qa (Qv 13) (Qd (Qn 5)),Qa (Qv 2) (Qd (Qn 12)),Qa (Qv 3) (Qd (Qn 13))]
def Wzg:MC:=.r0 Yzm
def Yzn:MC:=.seq Wze (.seq Wzf (.seq Wzg .ret))
attribute [go_sem] Yzk Yzl Yzm
theorem Jfr:KK QP 16 f16 [1] Yzn [(Q0 2),(Q0 3)] 14:=by refine⟨func16,?_,?_,?_,?_⟩<;>kernel_rfl
theorem Wzh:Xaa QP 16=true:=by kernel_rfl
theorem Wzi (h:GI QP gp [(Q0 2),(Q0 3)] res 14 Yzn args):Does QP gp 16 args res:=Jfr.i Wzh h
def Yzo:=[Qa (Qv 4) (Qd (Qo (Qp (Qq (Qs false)))))]
def Wzj:MC:=.r0 Yzo
def Yzp:=[Qa (Qv 6) (Qd (Qn 0)),Qa (Qv 7) (Qk Qt (Qn 6)),Qa (Qv 8) (Qd (Qn 1)),Qa (Qv 9) (Qk Qt (Qn 8)),Qa (Qv 10) (Qe Qt Q8 (Qn 7) (Qn 9))]
def Wzk:MC:=.r0 Yzp
def Yzq:=[Qa (Qv 4) (Qd (Qo (Qp (Qq (Qs false)))))]
def Wzl:MC:=.r0 Yzq
def Yzr:=[Qa (Qv 5) (Qd (Qo (Qp (Qq (Qr Qu 0)))))]
def Wzm:MC:=.r0 Yzr
def Yzs:=[Qa (Qv 11) (Qd (Qn 5)),Qa (Qv 12) (Qd (Qn 0)),Qa (Qv 13) (Qk Qt (Qn 12)),Qa (Qv 14) (Qe Qt Qy (Qn 11) (Qn 13))]
def Wzn:MC:=.r0 Yzs
def X5x:=[Qa (Qv 17) (Qd (Qn 0)),Qa (Qv 18) (Qd (Qn 5)),Qa (Qv 19) (Qj 1 (Qn 17) (Qn 18)),Qa (Qv 20) (Qf 1 false (Qn 19)),Qa (Qv 21) (Qd (Qn 1)),Qa (Qv 22) (Qd (Qn 5)),Qa (Qv 23) (Qj 1 (Qn 21) (Qn 22)),Qa (Qv 24) (Qf 1 false (Qn 23)),Qa (Qv 25) (Qe Q4 Q8 (Qn 20) (Qn 24))]
def Wa6:MC:=.reg true X5x
def X5y:=[Qa (Qv 4) (Qd (Qo (Qp (Qq (Qs false)))))]
def Wa7:MC:=.r0 X5y
def X5z:=[Qa (Qv 15) (Qd (Qn 5)),Qa (Qv 16) (Qe Qt Qx (Qn 15) (Qo (Qp (Qq (Qr Qu 1))))),Qa (Qv 5) (Qd (Qn 16))]
def Wa8:MC:=.r0 X5z
def Wa9:MC:=.seq (.seq Wzn (.cond (Qn 14) .skip (Q3 0))) (.seq (.blk 1 (.seq Wa6 (.cond (Qn 25) (.seq Wa7 .ret) .skip))) Wa8)
def X50:=[Qa (Qv 4) (Qd (Qo (Qp (Qq (Qs true)))))]
def Wba:MC:=.r0 X50
def Wbb:MC:=.seq (.seq Wzk (.cond (Qn 10) (.seq Wzl .ret) .skip)) (.seq (.seq Wzm (.blk 0 (.loop Wa9))) (.seq Wba .ret))
def X51:MC:=.seq Wzj Wbb
attribute [go_sem] Yzo Yzp Yzq Yzr Yzs X5x X5y X5z X50
theorem Jfs:KK QP 17 f17 [] X51 [(Q0 4)] 26:=by refine⟨func17,?_,?_,?_,?_⟩<;>kernel_rfl
theorem Wzo:Xaa QP 17=true:=by kernel_rfl
theorem Wzp (h:GI QP gp [(Q0 4)] res 26 X51 args):Does QP gp 17 args res:=Jfs.i Wzo h
def Yzt:=[Qa (Qv 1) (Q2 (Qn 0)),Qa (Qv 2) (Q5 [(Qr Qu 0),(Qr Qu 0),(Q1 (Qw #[]))])]
def Wzq:MC:=.r0 Yzt
def Yzu:=[Qa (Qv 3) (Qg 0 (Qn 1)),Qa (Qv 4) (Qf 1 false (Qn 3)),Qa (Qv 5) (Qg 1 (Qn 1)),Qa (Qv 6) (Qf 1 false (Qn 5)),Qa (Qv 7) (Qg 2 (Qn 1)),Qa (Qv 8) (Qf 1 false (Qn 7)),Qa (Qv 9) (Qh 34 [(Qn 8)]),Qa (Qv 10) (Q9 [(Qr Qu 0),(Qr Qu 0),(Q1 (Qw #[]))] [(0,(1,(Qn 4))),(1,(1,(Qn 6))),(2,(1,(Qn 9)))]),Qa none (Ql 3 (Qn 2) (Qn 10))]
def Wzr:MC:=.reg true Yzu
def Yzv:MC:=.seq Wzq (.seq Wzr .ret)
attribute [go_sem] Yzt Yzu
theorem Jft:KK QP 18 f18 [1] Yzv [(QG 2 3 true)] 11:=by refine⟨func18,?_,?_,?_,?_⟩<;>kernel_rfl
theorem Wzs:Xaa QP 18=true:=by kernel_rfl
theorem Wzt (h:GI QP gp [(QG 2 3 true)] res 11 Yzv args):Does QP gp 18 args res:=Jft.i Wzs h
def Yzw:=[Qa (Qv 2) (Qd (Qo (Qp (Qq (Q1 (Qw #[]))))))]
def Wzu:MC:=.r0 Yzw
def Yzx:=[Qa (Qv 3) (Qd (Qn 0)),Qa (Qv 4) (Qe Qt Qy (Qn 3) (Qo (Qp (Qq (Qr Qu 10)))))]
def Wzv:MC:=.r0 Yzx
def Yzy:=[Qa (Qv 5) (Qd (Qn 0)),Qa (Qv 6) (MOp.max (Qn 5) (Qo (Qp (Qq (Qr Qu 0))))),Qa (Qv 7) (Qd (Qn 0)),Qa (Qv 8) (MOp.max (Qn 7) (Qo (Qp (Qq (Qr Qu 0))))),Qa (Qv 9) (Qe Qt Qx (Qn 8) (Qo (Qp (Qq (Qr Qu 1))))),Qa (Qv 10) (QL (Qo (Qp (Qq (Q1 (Qw #[48,49,50,51,52,53,54,55,56,57]))))) (Qv (Qn 6)) (Qv (Qn 9))),Qa (Qv 2) (Qd (Qn 10))]
def Wzw:MC:=.r0 Yzy
def Yzz:=[Qa (Qv 11) (Qd (Qn 0)),Qa (Qv 12) (Qe Qt QU (Qn 11) (Qo (Qp (Qq (Qr Qu 10))))),Qc (Qv 13) (Qh 20 [(Qn 12)]),Qa (Qv 14) (Qd (Qn 0)),Qa (Qv 15) (Qe Qt QK (Qn 14) (Qo (Qp (Qq (Qr Qu 10))))),Qa (Qv 16) (Qd (Qn 0)),Qa (Qv 17) (Qe Qt QK (Qn 16) (Qo (Qp (Qq (Qr Qu 10))))),Qa (Qv 18) (Qe Qt Qx (Qn 17) (Qo (Qp (Qq (Qr Qu 1))))),Qa (Qv 19) (QL (Qo (Qp (Qq (Q1 (Qw #[48,49,50,51,52,53,54,55,56,57]))))) (Qv (Qn 15)) (Qv (Qn 18))),Qa (Qv 20) (Qe Q4 Qx (Qn 13) (Qn 19)),Qa (Qv 2) (Qd (Qn 20))]
def Wzx:MC:=.reg true Yzz
def X52:MC:=.seq Wzu (.seq (.seq Wzv (.cond (Qn 4) (.seq Wzw .ret) .skip)) (.seq Wzx .ret))
attribute [go_sem] Yzw Yzx Yzy Yzz
theorem Jfu:KK QP 20 f20 [] X52 [(Q0 2)] 21:=by refine⟨func20,?_,?_,?_,?_⟩<;>kernel_rfl
theorem Wzy:Xaa QP 20=true:=by kernel_rfl
theorem X53 (h:GI QP gp [(Q0 2)] res 21 X52 args):Does QP gp 20 args res:=Jfu.i Wzy h
def Yz0:=[Qa (Qv 2) (Q2 (Qn 0)),Qa (Qv 3) (Q2 (Qn 1)),Qa (Qv 4) (Qd (Qo (Qp (Qq (Qs false)))))]
def Wzz:MC:=.r0 Yz0
def Yz1:=[Qa (Qv 5) (Qd (Qo (Qp (Qq (QX (Go.Fn.func 43) [])))))]
def Wz0:MC:=.r0 Yz1
def Yz2:=[Qa (Qv 6) (Qg 0 (Qn 2)),Qa (Qv 7) (Qf 1 false (Qn 6)),Qa (Qv 8) (Qg 0 (Qn 3)),Qa (Qv 9) (Qf 1 false (Qn 8)),Qa (Qv 10) (Qe Qt Qz (Qn 7) (Qn 9)),Qa (Qv 11) (Qd (Qn 10)),Qb 11 true (Qv 12),Qa (Qv 12) (Qg 1 (Qn 2)),Qb 11 true (Qv 13),Qa (Qv 13) (Qf 1 false (Qn 12)),Qb 11 true (Qv 14),Qa (Qv 14) (Qg 1 (Qn 3)),Qb 11 true (Qv 15),Qa (Qv 15) (Qf 1 false (Qn 14)),Qb 11 true (Qv 16),Qa (Qv 16) (Qd (Qn 5)),Qb 11 true (Qv 17),Qa (Qv 17) (Qh 46 [(Qn 13),(Qn 15),(Qn 16)]),Qa (Qv 18) (Qm (Qn 11) (Qn 17) (Qo (Qp (Qq (Qs false))))),Qa (Qv 4) (Qd (Qn 18))]
def Wz1:MC:=.r0 Yz2
def Yz3:MC:=.seq Wzz (.seq Wz0 (.seq Wz1 .ret))
attribute [go_sem] Yz0 Yz1 Yz2
theorem Jfv:KK QP 23 f23 [2,3] Yz3 [(Q0 4)] 19:=by refine⟨func23,?_,?_,?_,?_⟩<;>kernel_rfl
theorem Wz2:Xaa QP 23=true:=by kernel_rfl
theorem Wz3 (h:GI QP gp [(Q0 4)] res 19 Yz3 args):Does QP gp 23 args res:=Jfv.i Wz2 h
def Yz4:=[Qa (Qv 1) (Q2 (Qn 0)),Qa (Qv 2) (Q5 [(Qr Qu 0),(QA [])])]
def Wz4:MC:=.r0 Yz4
def Yz5:=[Qa (Qv 9) (Qg 0 (Qn 1)),Qa (Qv 10) (Qf 1 false (Qn 9)),Qa (Qv 11) (Q9 [(Qr Qu 0),(QA [])] [(0,(1,(Qn 10)))]),Qa (Qv 3) (Q5 [(Qr Qu 0),(QA [])]),Qa none (Ql 2 (Qn 3) (Qn 11))]
def Wz5:MC:=.r0 Yz5
def Yz6:=[Qa (Qv 4) (Qd (Qo (Qp (Qq (Qr Qu 0)))))]
def Wz6:MC:=.r0 Yz6
def Yz7:=[Qa (Qv 12) (Qd (Qn 4)),Qa (Qv 13) (Qg 1 (Qn 1)),Qa (Qv 14) (Qf 1 false (Qn 13)),Qa (Qv 15) (Qk Qt (Qn 14)),Qa (Qv 16) (Qe Qt Qy (Qn 12) (Qn 15)),Qa (Qv 17) (Qd (Qn 16)),Qb 17 true (Qv 18),Qa (Qv 18) (Qd (Qn 4)),Qb 17 true (Qv 19),Qa (Qv 19) (Qe Qt Qy (Qn 18) (Qo (Qp (Qq (Qr Qu 201))))),Qa (Qv 20) (Qm (Qn 17) (Qn 19) (Qo (Qp (Qq (Qs false)))))]
def Wz7:MC:=.r0 Yz7
def Yz8:=[Qa (Qv 23) (Qg 1 (Qn 1)),Qa (Qv 24) (Qf 1 false (Qn 23)),Qa (Qv 25) (Qd (Qn 4)),Qa (Qv 26) (Qj 6 (Qn 24) (Qn 25)),Qa (Qv 27) (Qf 6 true (Qn 26)),Qa (Qv 5) (Q5 [(Qr Qu 0),(Qr Qu 0),(Qr Qu 0),(Q1 (Qw #[])),(QA []),(QA [])]),Qa none (Ql 6 (Qn 5) (Qn 27))]
def Wz8:MC:=.r0 Yz8
def Yz9:=[Qa (Qv 28) (Qg 0 (Qn 5)),Qa (Qv 29) (Qf 1 false (Qn 28)),Qa (Qv 30) (Qg 1 (Qn 5)),Qa (Qv 31) (Qf 3 true (Qn 30)),Qa (Qv 32) (Qh 18 [(Qn 31)]),Qa (Qv 33) (Q9 [(Qr Qu 0),(Qr Qu 0),(Qr Qu 0),(Q1 (Qw #[])),(QA []),(QA [])] [(0,(1,(Qn 29))),(1,(3,(Qn 32)))]),Qa (Qv 6) (Q5 [(Qr Qu 0),(Qr Qu 0),(Qr Qu 0),(Q1 (Qw #[])),(QA []),(QA [])]),Qa none (Ql 6 (Qn 6) (Qn 33))]
def Wz9:MC:=.reg true Yz9
def X54:=[Qa (Qv 7) (Qd (Qo (Qp (Qq (Qr Qu 0)))))]
def Wbc:MC:=.r0 X54
def X55:=[Qa (Qv 34) (Qd (Qn 7)),Qa (Qv 35) (Qg 4 (Qn 5)),Qa (Qv 36) (Qf 1 false (Qn 35)),Qa (Qv 37) (Qk Qt (Qn 36)),Qa (Qv 38) (Qe Qt Qy (Qn 34) (Qn 37)),Qa (Qv 39) (Qd (Qn 38)),Qb 39 true (Qv 40),Qa (Qv 40) (Qd (Qn 7)),Qb 39 true (Qv 41),Qa (Qv 41) (Qe Qt Qy (Qn 40) (Qo (Qp (Qq (Qr Qu 12))))),Qa (Qv 42) (Qm (Qn 39) (Qn 41) (Qo (Qp (Qq (Qs false)))))]
def Wbd:MC:=.r0 X55
def X56:=[Qa (Qv 45) (Qg 4 (Qn 6)),Qa (Qv 46) (Qf 1 false (Qn 45)),Qa (Qv 47) (Qg 4 (Qn 5)),Qa (Qv 48) (Qf 1 false (Qn 47)),Qa (Qv 49) (Qd (Qn 7)),Qa (Qv 50) (Qj 3 (Qn 48) (Qn 49)),Qa (Qv 51) (Qf 3 true (Qn 50)),Qa (Qv 52) (Qh 18 [(Qn 51)]),Qa (Qv 53) (Q6 3 [(Qr Qu 0),(Qr Qu 0),(Q1 (Qw #[]))] 1 [(0,(Qn 52))]),Qa (Qv 54) (QE 39 3 32 (Qn 46) (Qn 53)),Qa (Qv 55) (Qg 4 (Qn 6)),Qa none (Ql 1 (Qn 55) (Qn 54))]
def Wbe:MC:=.reg true X56
def X57:=[Qa (Qv 43) (Qd (Qn 7)),Qa (Qv 44) (Qe Qt Qx (Qn 43) (Qo (Qp (Qq (Qr Qu 1))))),Qa (Qv 7) (Qd (Qn 44))]
def Wbf:MC:=.r0 X57
def Wbg:MC:=.seq Wbc (.blk 2 (.loop (.seq (.seq Wbd (.cond (Qn 42) .skip (Q3 2))) (.seq (.blk 3 Wbe) Wbf))))
def X58:=[Qa (Qv 8) (Qd (Qo (Qp (Qq (Qr Qu 0)))))]
def Wbh:MC:=.r0 X58
def X59:=[Qa (Qv 56) (Qd (Qn 8)),Qa (Qv 57) (Qg 5 (Qn 5)),Qa (Qv 58) (Qf 1 false (Qn 57)),Qa (Qv 59) (Qk Qt (Qn 58)),Qa (Qv 60) (Qe Qt Qy (Qn 56) (Qn 59)),Qa (Qv 61) (Qd (Qn 60)),Qb 61 true (Qv 62),Qa (Qv 62) (Qd (Qn 8)),Qb 61 true (Qv 63),Qa (Qv 63) (Qe Qt Qy (Qn 62) (Qo (Qp (Qq (Qr Qu 12))))),Qa (Qv 64) (Qm (Qn 61) (Qn 63) (Qo (Qp (Qq (Qs false)))))]
def Wbi:MC:=.r0 X59
def X6a:=[Qa (Qv 67) (Qg 5 (Qn 6)),Qa (Qv 68) (Qf 1 false (Qn 67)),Qa (Qv 69) (Qg 5 (Qn 5)),Qa (Qv 70) (Qf 1 false (Qn 69)),Qa (Qv 71) (Qd (Qn 8)),Qa (Qv 72) (Qj 1 (Qn 70) (Qn 71)),Qa (Qv 73) (Qf 1 false (Qn 72)),Qa (Qv 74) (Q6 1 [(Qr Qu 0)] 1 [(0,(Qn 73))]),Qa (Qv 75) (QE 3 1 8 (Qn 68) (Qn 74)),Qa (Qv 76) (Qg 5 (Qn 6)),Qa none (Ql 1 (Qn 76) (Qn 75))]
def Wbj:MC:=.reg true X6a
def X6b:=[Qa (Qv 65) (Qd (Qn 8)),Qa (Qv 66) (Qe Qt Qx (Qn 65) (Qo (Qp (Qq (Qr Qu 1))))),Qa (Qv 8) (Qd (Qn 66))]
def Wbk:MC:=.r0 X6b
def Wbl:MC:=.seq Wbh (.blk 4 (.loop (.seq (.seq Wbi (.cond (Qn 64) .skip (Q3 4))) (.seq (.blk 5 Wbj) Wbk))))
def X6c:=[Qa (Qv 77) (Qg 1 (Qn 3)),Qa (Qv 78) (Qf 1 false (Qn 77)),Qa (Qv 79) (Qf 6 true (Qn 6)),Qa (Qv 80) (Q6 6 [(Qr Qu 0),(Qr Qu 0),(Qr Qu 0),(Q1 (Qw #[])),(QA []),(QA [])] 1 [(0,(Qn 79))]),Qa (Qv 81) (QE 43 6 88 (Qn 78) (Qn 80)),Qa (Qv 82) (Qg 1 (Qn 3)),Qa none (Ql 1 (Qn 82) (Qn 81))]
def Wbm:MC:=.r0 X6c
def Wbn:MC:=.seq Wz9 (.seq Wbg (.seq Wbl Wbm))
def X6d:=[Qa (Qv 21) (Qd (Qn 4)),Qa (Qv 22) (Qe Qt Qx (Qn 21) (Qo (Qp (Qq (Qr Qu 1))))),Qa (Qv 4) (Qd (Qn 22))]
def Wbo:MC:=.r0 X6d
def Wbp:MC:=.seq (.seq Wz7 (.cond (Qn 20) .skip (Q3 0))) (.seq (.blk 1 (.seq Wz8 Wbn)) Wbo)
def X6e:=[Qa (Qv 83) (Qf 2 true (Qn 3)),Qa none (Ql 2 (Qn 2) (Qn 83))]
def Wbq:MC:=.r0 X6e
def Wbr:MC:=.seq Wz5 (.seq (.seq Wz6 (.blk 0 (.loop Wbp))) (.seq Wbq .ret))
def X6f:MC:=.seq Wz4 Wbr
attribute [go_sem] Yz4 Yz5 Yz6 Yz7 Yz8 Yz9 X54 X55 X56 X57 X58 X59 X6a X6b X6c X6d X6e
theorem Jfw:KK QP 24 f24 [1] X6f [(QG 2 2 true)] 84:=by refine⟨func24,?_,?_,?_,?_⟩<;>kernel_rfl
theorem W0a:Xaa QP 24=true:=by kernel_rfl
theorem W0b (h:GI QP gp [(QG 2 2 true)] res 84 X6f args):Does QP gp 24 args res:=Jfw.i W0a h
def Y0a:=[Qa (Qv 1) (Q2 (Qn 0)),Qa (Qv 2) (Qd (Qo (Qp A.nil))),Qa (Qv 3) (Qd (Qo (Qp (Qq (Qr Qu 0)))))]
def W0c:MC:=.r0 Y0a
def Y0b:=[Qa (Qv 10) (Qf 2 true (Qn 1)),Qa (Qv 11) (Qh 53 [(Qn 10)]),Qa (Qv 12) (QC (Qn 11))]
def W0d:MC:=.r0 Y0b
def Y0c:=[Qa (Qv 2) (Qd (Qo (Qp A.nil))),Qa (Qv 3) (Qd (Qo (Qp (Qq (Qr Qu 72)))))]
def W0e:MC:=.r0 Y0c
def Y0d:=[Qa (Qv 13) (Qf 2 true (Qn 1)),Qa (Qv 14) (Qh 54 [(Qn 13)])]
def W0f:MC:=.r0 Y0d
def Y0e:=[Qa (Qv 2) (Qd (Qo (Qp A.nil))),Qa (Qv 3) (Qd (Qo (Qp (Qq (Qr Qu 73)))))]
def W0g:MC:=.r0 Y0e
def X6g:=[Qa (Qv 16) (Qf 2 true (Qn 1)),Qa (Qv 17) (Qh 55 [(Qn 16)]),Qa (Qv 15) (Qd (Qn 17)),Qa (Qv 18) (Qi (Qn 15) 0),Qa (Qv 19) (Qi (Qn 15) 1),Qa (Qv 4) (Qd (Qn 18)),Qa (Qv 5) (Qd (Qn 19))]
def Wbs:MC:=.r0 X6g
def X6h:=[Qa (Qv 20) (Qf 2 true (Qn 1)),Qa (Qv 21) (Qd (Qn 4)),Qa (Qv 22) (Qh 56 [(Qn 20),(Qn 21)]),Qa (Qv 23) (Qe Qt Q7 (Qn 22) (Qo (Qp (Qq (Qr Qu 200)))))]
def Wbt:MC:=.r0 X6h
def X6i:=[Qa (Qv 2) (Qd (Qo (Qp A.nil))),Qa (Qv 3) (Qd (Qo (Qp (Qq (Qr Qu 71)))))]
def Wbu:MC:=.r0 X6i
def X6j:=[Qa (Qv 24) (Qf 2 true (Qn 1)),Qa (Qv 25) (Qd (Qn 4)),Qa (Qv 26) QY,Qa (Qv 27) (Q9 [(Qr Qu 0),(QA []),(QA []),(D.raw (Go.Value.map none))] [(0,(2,(Qn 24))),(2,(1,(Qn 25))),(3,(1,(Qn 26)))]),Qa (Qv 28) (QS (Qn 27)),Qa (Qv 6) (Qd (Qn 28))]
def Wbv:MC:=.r0 X6j
def X6k:=[Qa (Qv 7) (Q5 [(QA [])])]
def Wbw:MC:=.r0 X6k
def X6l:=[Qa (Qv 8) (Q5 [(Qr Qu 0)]),Qa none (Ql 1 (Qn 8) (Qo (Qp (Qq (Qr Qu 0)))))]
def Wbx:MC:=.r0 X6l
def X6m:=[Qa (Qv 29) (Qd (Qn 6)),Qa (Qv 30) (Qh 57 [(Qn 29)])]
def Wby:MC:=.r0 X6m
def X6n:=[Qa (Qv 9) (Q5 [(Q1 (Qw #[])),(Qr Qu 0),(Qr Qu 0)]),Qa none (Ql 3 (Qn 9) (Qn 31))]
def Wbz:MC:=.r0 X6n
def X6o:=[Qa (Qv 32) (Qf 1 false (Qn 7)),Qa (Qv 33) (Qg 0 (Qn 9)),Qa (Qv 34) (Qf 1 false (Qn 33)),Qa (Qv 35) (Q6 1 [(Q1 (Qw #[]))] 1 [(0,(Qn 34))]),Qa (Qv 36) (QE 9 1 16 (Qn 32) (Qn 35)),Qa none (Ql 1 (Qn 7) (Qn 36))]
def Wb0:MC:=.r0 X6o
def X6p:=[Qa (Qv 37) (Qf 1 false (Qn 8)),Qa (Qv 38) (Qg 0 (Qn 9)),Qa (Qv 39) (Qf 1 false (Qn 38)),Qa (Qv 40) (Qk Q4 (Qn 39)),Qa (Qv 41) (Qe Qt Qx (Qn 40) (Qo (Qp (Qq (Qr Qu 1))))),Qa (Qv 42) (Qe Qt Qx (Qn 37) (Qn 41)),Qa none (Ql 1 (Qn 8) (Qn 42))]
def Wb1:MC:=.r0 X6p
def X6q:=[Qa (Qv 43) (Qf 1 false (Qn 8)),Qa (Qv 44) (Qe Qt Q7 (Qn 43) (Qo (Qp (Qq (Qr Qu 8000)))))]
def Wb2:MC:=.r0 X6q
def Wb3:MC:=.rf (Qn 30) [31] Wbz (.blk 1 (.seq Wb0 (.seq Wb1 (.seq Wb2 (.cond (Qn 44) (Q3 0) .skip)))))
def X6r:=[Qa (Qv 45) (Qf 1 false (Qn 8)),Qa (Qv 46) (Qe Qt Q7 (Qn 45) (Qo (Qp (Qq (Qr Qu 8000)))))]
def Wb4:MC:=.r0 X6r
def X6s:=[Qa (Qv 2) (Qd (Qo (Qp A.nil))),Qa (Qv 3) (Qd (Qo (Qp (Qq (Qr Qu 20)))))]
def Wb5:MC:=.r0 X6s
def X6t:=[Qa (Qv 47) (Qf 1 false (Qn 7)),Qa (Qv 2) (Qd (Qn 47)),Qa (Qv 3) (Qd (Qo (Qp (Qq (Qr Qu 0)))))]
def Wb6:MC:=.r0 X6t
def Wb7:MC:=.seq (.seq Wby (.blk 0 Wb3)) (.seq (.seq Wb4 (.cond (Qn 46) (.seq Wb5 .ret) .skip)) (.seq Wb6 .ret))
def Wb8:MC:=.seq Wbv (.seq Wbw (.seq Wbx (.seq .skip Wb7)))
def Wb9:MC:=.seq Wbs (.seq (.seq Wbt (.cond (Qn 23) (.seq Wbu .ret) .skip)) Wb8)
def Wca:MC:=.seq (.seq W0d (.cond (Qn 12) (.seq W0e .ret) .skip)) (.seq (.seq W0f (.cond (Qn 14) (.seq W0g .ret) .skip)) Wb9)
def X6u:MC:=.seq W0c (.scope Wca)
attribute [go_sem] Y0a Y0b Y0c Y0d Y0e X6g X6h X6i X6j X6k X6l X6m X6n X6o X6p X6q X6r X6s X6t
theorem Jfx:KK QP 26 f26 [1] X6u [(Q0 2),(Q0 3)] 48:=by refine⟨func26,?_,?_,?_,?_⟩<;>kernel_rfl
theorem W0h:Xaa QP 26=true:=by kernel_rfl
theorem Xvc (h:GI QP gp [(Q0 2),(Q0 3)] res 48 X6u args):Does QP gp 26 args res:=Jfx.i W0h h
def Y0f:=[Qa (Qv 4) (Qd (Qo (Qp (Qq (Q1 (Qw #[])))))),Qa (Qv 5) (Qd (Qo (Qp (Qq (Qs false)))))]
def W0i:MC:=.r0 Y0f
def Y0g:=[Qa (Qv 9) (Qd (Qn 0)),Qa (Qv 10) (QB (Qn 9)),Qa (Qv 11) (Qg 0 (Qn 10)),Qa (Qv 12) (Qg 1 (Qn 11)),Qa (Qv 13) (Qf 1 false (Qn 12)),Qa (Qv 14) (Qd (Qn 1)),Qa (Qv 15) (Qj 6 (Qn 13) (Qn 14)),Qa (Qv 16) (Qf 6 true (Qn 15)),Qa (Qv 6) (Q5 [(Qr Qu 0),(Qr Qu 0),(Qr Qu 0),(Q1 (Qw #[])),(QA []),(QA [])]),Qa none (Ql 6 (Qn 6) (Qn 16))]
def W0j:MC:=.r0 Y0g
def Y0h:=[Qa (Qv 18) (Qg 0 (Qn 6)),Qa (Qv 19) (Qf 1 false (Qn 18)),Qa (Qv 20) (Qe Qt Qz (Qn 19) (Qo (Qp (Qq (Qr Qu 0))))),Qa (Qv 17) (Qd (Qn 20))]
def W0k:MC:=.r0 Y0h
def Y0i:=[Qa (Qv 22) (Qg 1 (Qn 6)),Qa (Qv 23) (Qf 3 true (Qn 22)),Qa (Qv 24) (Qh 61 [(Qn 23)]),Qa (Qv 21) (Qd (Qn 24)),Qa (Qv 25) (Qi (Qn 21) 0),Qa (Qv 26) (Qi (Qn 21) 1),Qa (Qv 7) (Qd (Qn 25)),Qa (Qv 8) (Qd (Qn 26))]
def W0l:MC:=.r0 Y0i
def Y0j:=[Qa (Qv 27) (Qd (Qn 7)),Qa (Qv 4) (Qd (Qn 27)),Qa (Qv 5) (Qd (Qo (Qp (Qq (Qs true)))))]
def W0m:MC:=.r0 Y0j
def Y0k:=[Qa (Qv 29) (Qg 5 (Qn 6)),Qa (Qv 30) (Qf 1 false (Qn 29)),Qa (Qv 31) (Qk Qt (Qn 30)),Qa (Qv 32) (Qe Qt Q7 (Qn 31) (Qo (Qp (Qq (Qr Qu 0))))),Qa (Qv 28) (Qd (Qn 32))]
def W0n:MC:=.r0 Y0k
def Y0l:=[Qa (Qv 4) (Qd (Qo (Qp (Qq (Q1 (Qw #[])))))),Qa (Qv 5) (Qd (Qo (Qp (Qq (Qs false)))))]
def W0o:MC:=.r0 Y0l
def X6v:=[Qa (Qv 34) (Qg 0 (Qn 6)),Qa (Qv 35) (Qf 1 false (Qn 34)),Qa (Qv 36) (Qe Qt Qz (Qn 35) (Qo (Qp (Qq (Qr Qu 1))))),Qa (Qv 33) (Qd (Qn 36))]
def Wcb:MC:=.r0 X6v
def X6w:=[Qa (Qv 4) (Qd (Qo (Qp (Qq (Q1 (Qw #[91,93])))))),Qa (Qv 5) (Qd (Qo (Qp (Qq (Qs true)))))]
def Wcc:MC:=.r0 X6w
def Wcd:MC:=.seq W0n (.cond (Qn 28) (.seq W0o .ret) (.seq Wcb (.cond (Qn 33) (.seq Wcc .ret) .skip)))
def Wce:MC:=.seq W0k (.cond (Qn 17) (.seq W0l (.seq W0m .ret)) Wcd)
def X6x:=[Qa (Qv 4) (Qd (Qo (Qp (Qq (Q1 (Qw #[123,125])))))),Qa (Qv 5) (Qd (Qo (Qp (Qq (Qs true)))))]
def Wcf:MC:=.r0 X6x
def X6y:MC:=.seq W0i (.seq W0j (.seq (.blk 0 Wce) (.seq Wcf .ret)))
attribute [go_sem] Y0f Y0g Y0h Y0i Y0j Y0k Y0l X6v X6w X6x
theorem Jfy:KK QP 32 f32 [] X6y [(Q0 4),(Q0 5)] 37:=by refine⟨func32,?_,?_,?_,?_⟩<;>kernel_rfl
theorem W0p:Xaa QP 32=true:=by kernel_rfl
theorem Y0m (h:GI QP gp [(Q0 4),(Q0 5)] res 37 X6y args):Does QP gp 32 args res:=Jfy.i W0p h
def Y0n:=[Qa (Qv 11) (Qd (Qn 0)),Qa (Qv 12) (Qd (Qn 0)),Qa (Qv 13) (QB (Qn 12)),Qa (Qv 14) (Qg 3 (Qn 13)),Qa (Qv 15) (Qf 1 false (Qn 14)),Qa (Qv 16) (Qd (Qn 1)),Qa (Qv 17) (Q6 1 [(Qr Qu 0)] 1 [(0,(Qn 16))]),Qa (Qv 18) (QE 3 1 8 (Qn 15) (Qn 17)),Qa (Qv 19) (QB (Qn 11)),Qa (Qv 20) (Qg 3 (Qn 19)),Qa none (Ql 1 (Qn 20) (Qn 18))]
def W0q:MC:=.r0 Y0n
def Y0o:=[Qa (Qv 21) (Qd (Qn 0)),Qa (Qv 22) (QB (Qn 21)),Qa (Qv 23) (Qg 0 (Qn 22)),Qa (Qv 24) (Qg 1 (Qn 23)),Qa (Qv 25) (Qf 1 false (Qn 24)),Qa (Qv 26) (Qd (Qn 1)),Qa (Qv 27) (Qj 6 (Qn 25) (Qn 26)),Qa (Qv 28) (Qf 6 true (Qn 27)),Qa (Qv 6) (Q5 [(Qr Qu 0),(Qr Qu 0),(Qr Qu 0),(Q1 (Qw #[])),(QA []),(QA [])]),Qa none (Ql 6 (Qn 6) (Qn 28))]
def W0r:MC:=.r0 Y0o
def Y0p:=[Qa (Qv 7) (Qd (Qo (Qp (Qq (Qr Qu 0)))))]
def W0s:MC:=.r0 Y0p
def Y0q:=[Qa (Qv 29) (Qd (Qn 7)),Qa (Qv 30) (Qg 5 (Qn 6)),Qa (Qv 31) (Qf 1 false (Qn 30)),Qa (Qv 32) (Qk Qt (Qn 31)),Qa (Qv 33) (Qe Qt Qy (Qn 29) (Qn 32))]
def W0t:MC:=.r0 Y0q
def Y0r:=[Qa (Qv 36) (Qd (Qn 2)),Qa (Qv 37) (Qe Q4 Qx (Qn 36) (Qo (Qp (Qq (Q1 (Qw #[45])))))),Qa (Qv 8) (Qd (Qn 37))]
def W0u:MC:=.r0 Y0r
def Y0s:=[Qa (Qv 38) (Qg 0 (Qn 6)),Qa (Qv 39) (Qf 1 false (Qn 38)),Qa (Qv 40) (Qe Qt Qz (Qn 39) (Qo (Qp (Qq (Qr Qu 2)))))]
def W0v:MC:=.r0 Y0s
def X6z:=[Qa (Qv 42) (Qg 4 (Qn 6)),Qa (Qv 43) (Qf 1 false (Qn 42)),Qa (Qv 44) (Qd (Qn 7)),Qa (Qv 45) (Qj 3 (Qn 43) (Qn 44)),Qa (Qv 46) (Qf 3 true (Qn 45)),Qa (Qv 47) (Qh 61 [(Qn 46)]),Qa (Qv 41) (Qd (Qn 47)),Qa (Qv 48) (Qi (Qn 41) 0),Qa (Qv 49) (Qi (Qn 41) 1),Qa (Qv 9) (Qd (Qn 48)),Qa (Qv 10) (Qd (Qn 49))]
def Wcg:MC:=.r0 X6z
def X60:=[Qa (Qv 50) (Qd (Qn 2)),Qa (Qv 51) (Qd (Qn 9)),Qa (Qv 52) (Qe Q4 Qx (Qn 50) (Qn 51)),Qa (Qv 53) (Qe Q4 Qx (Qn 52) (Qo (Qp (Qq (Q1 (Qw #[58])))))),Qa (Qv 8) (Qd (Qn 53))]
def Wch:MC:=.r0 X60
def X61:=[Qa (Qv 54) (Qd (Qn 0)),Qa (Qv 55) (Qg 5 (Qn 6)),Qa (Qv 56) (Qf 1 false (Qn 55)),Qa (Qv 57) (Qd (Qn 7)),Qa (Qv 58) (Qj 1 (Qn 56) (Qn 57)),Qa (Qv 59) (Qf 1 false (Qn 58)),Qa (Qv 60) (Qd (Qn 8)),Qa (Qv 61) (Qd (Qn 2)),Qa (Qv 62) (Qh 62 [(Qn 54),(Qn 59),(Qn 60),(Qn 61)])]
def Wci:MC:=.r0 X61
def Wcj:MC:=.seq (.seq W0v (.cond (Qn 40) (.seq Wcg Wch) .skip)) Wci
def X62:=[Qa (Qv 34) (Qd (Qn 7)),Qa (Qv 35) (Qe Qt Qx (Qn 34) (Qo (Qp (Qq (Qr Qu 1))))),Qa (Qv 7) (Qd (Qn 35))]
def Wck:MC:=.r0 X62
def Wcl:MC:=.seq (.seq W0t (.cond (Qn 33) .skip (Q3 0))) (.seq (.blk 1 (.seq W0u Wcj)) Wck)
def X63:MC:=.seq W0q (.seq W0r (.seq W0s (.blk 0 (.loop Wcl))))
attribute [go_sem] Y0n Y0o Y0p Y0q Y0r Y0s X6z X60 X61 X62
theorem Jfz:KK QP 33 f33 [] X63 [] 63:=by refine⟨func33,?_,?_,?_,?_⟩<;>kernel_rfl
theorem Xvd:Xaa QP 33=true:=by kernel_rfl
theorem Wcm (h:GT QP gp [] pre R 63 X63 args):Tri QP gp 33 args pre R:=Jfz.t h
def Y0t:=[Qa (Qv 2) (Qd (Qo (Qp (Qq (Q1 (Qw #[]))))))]
def W0w:MC:=.r0 Y0t
def Y0u:=[Qa (Qv 3) (Qd (Qn 0)),Qa (Qv 4) (Qd (Qn 0)),Qa (Qv 5) (Qk Q4 (Qn 4)),Qa (Qv 6) (MOp.min (Qn 5) (Qo (Qp (Qq (Qr Qu 100))))),Qa (Qv 7) (QL (Qn 3) none (Qv (Qn 6))),Qa (Qv 2) (Qd (Qn 7))]
def W0x:MC:=.r0 Y0u
def Y0v:MC:=.seq W0w (.seq W0x .ret)
attribute [go_sem] Y0t Y0u
theorem Jf0:KK QP 34 f34 [] Y0v [(Q0 2)] 8:=by refine⟨func34,?_,?_,?_,?_⟩<;>kernel_rfl
theorem W0y:Xaa QP 34=true:=by kernel_rfl
theorem W0z (h:GI QP gp [(Q0 2)] res 8 Y0v args):Does QP gp 34 args res:=Jf0.i W0y h
def Y0w:=[Qa (Qv 1) (Q2 (Qn 0)),Qa (Qv 2) (Qd (Qo (Qp (Qq (Qs false)))))]
def W00:MC:=.r0 Y0w
def Y0x:=[Qa (Qv 3) (Qg 0 (Qn 1)),Qa (Qv 4) (Qf 1 false (Qn 3))]
def W01:MC:=.r0 Y0x
def Y0y:=[Qa (Qv 6) (Qe Qt Qz (Qn 4) (Qo (Qp (Qq (Qr Qu 0))))),Qa (Qv 5) (Qd (Qn 6))]
def W02:MC:=.r0 Y0y
def Y0z:=[Qa (Qv 7) (Qf 3 true (Qn 1)),Qa (Qv 8) (Q9 [(Qr Qu 0),(Qr Qu 0),(Q1 (Qw #[]))] []),Qa (Qv 9) (QH false [Qt,Qt,Q4] (Qn 7) (Qn 8)),Qa (Qv 2) (Qd (Qn 9))]
def W03:MC:=.r0 Y0z
def Y00:=[Qa (Qv 11) (Qe Qt Qz (Qn 4) (Qo (Qp (Qq (Qr Qu 1))))),Qa (Qv 10) (Qd (Qn 11))]
def W04:MC:=.r0 Y00
def Y01:=[Qa (Qv 12) (Qg 2 (Qn 1)),Qa (Qv 13) (Qf 1 false (Qn 12)),Qa (Qv 14) (Qe Q4 Qz (Qn 13) (Qo (Qp (Qq (Q1 (Qw #[])))))),Qa (Qv 15) (Qd (Qn 14)),Qb 15 true (Qv 16),Qa (Qv 16) (Qg 1 (Qn 1)),Qb 15 true (Qv 17),Qa (Qv 17) (Qf 1 false (Qn 16)),Qb 15 true (Qv 18),Qa (Qv 18) (Qe Qt Qz (Qn 17) (Qo (Qp (Qq (Qr Qu 0))))),Qb 15 true (Qv 19),Qa (Qv 19) (Qd (Qn 18)),Qb 19 false (Qv 20),Qa (Qv 20) (Qg 1 (Qn 1)),Qb 19 false (Qv 21),Qa (Qv 21) (Qf 1 false (Qn 20)),Qb 19 false (Qv 22),Qa (Qv 22) (Qe Qt Qz (Qn 21) (Qo (Qp (Qq (Qr Qu 1))))),Qb 15 true (Qv 23),Qa (Qv 23) (Qm (Qn 19) (Qo (Qp (Qq (Qs true)))) (Qn 22)),Qa (Qv 24) (Qm (Qn 15) (Qn 23) (Qo (Qp (Qq (Qs false))))),Qa (Qv 2) (Qd (Qn 24))]
def W05:MC:=.r0 Y01
def X64:=[Qa (Qv 26) (Qe Qt Qz (Qn 4) (Qo (Qp (Qq (Qr Qu 2))))),Qa (Qv 25) (Qd (Qn 26))]
def Wcn:MC:=.r0 X64
def X65:=[Qa (Qv 27) (Qg 2 (Qn 1)),Qa (Qv 28) (Qf 1 false (Qn 27)),Qa (Qv 29) (Qe Q4 Qz (Qn 28) (Qo (Qp (Qq (Q1 (Qw #[])))))),Qa (Qv 30) (Qd (Qn 29)),Qb 30 true (Qv 31),Qa (Qv 31) (Qg 1 (Qn 1)),Qb 30 true (Qv 32),Qa (Qv 32) (Qf 1 false (Qn 31)),Qb 30 true (Qv 33),Qa (Qv 33) (Qe Qt QD (Qn 32) (Qo (Qp (Qq (Qr Qu (-999999999999999)))))),Qa (Qv 34) (Qm (Qn 30) (Qn 33) (Qo (Qp (Qq (Qs false))))),Qa (Qv 35) (Qd (Qn 34)),Qb 35 true (Qv 36),Qa (Qv 36) (Qg 1 (Qn 1)),Qb 35 true (Qv 37),Qa (Qv 37) (Qf 1 false (Qn 36)),Qb 35 true (Qv 38),Qa (Qv 38) (Qe Qt QO (Qn 37) (Qo (Qp (Qq (Qr Qu 999999999999999))))),Qa (Qv 39) (Qm (Qn 35) (Qn 38) (Qo (Qp (Qq (Qs false))))),Qa (Qv 2) (Qd (Qn 39))]
def Wco:MC:=.r0 X65
def X66:=[Qa (Qv 41) (Qe Qt Qz (Qn 4) (Qo (Qp (Qq (Qr Qu 3))))),Qa (Qv 40) (Qd (Qn 41))]
def Wcp:MC:=.r0 X66
def X67:=[Qa (Qv 42) (Qg 1 (Qn 1)),Qa (Qv 43) (Qf 1 false (Qn 42)),Qa (Qv 44) (Qe Qt Qz (Qn 43) (Qo (Qp (Qq (Qr Qu 0))))),Qa (Qv 45) (Qd (Qn 44)),Qb 45 true (Qv 46),Qa (Qv 46) (Qg 2 (Qn 1)),Qb 45 true (Qv 47),Qa (Qv 47) (Qf 1 false (Qn 46)),Qb 45 true (Qv 48),Qa (Qv 48) (Qh 63 [(Qn 47)]),Qa (Qv 49) (Qm (Qn 45) (Qn 48) (Qo (Qp (Qq (Qs false))))),Qa (Qv 2) (Qd (Qn 49))]
def Wcq:MC:=.r0 X67
def Wcr:MC:=.seq Wcn (.cond (Qn 25) (.seq Wco .ret) (.seq Wcp (.cond (Qn 40) (.seq Wcq .ret) .skip)))
def Wcs:MC:=.cond (Qn 5) (.seq W03 .ret) (.seq W04 (.cond (Qn 10) (.seq W05 .ret) Wcr))
def X68:=[Qa (Qv 2) (Qd (Qo (Qp (Qq (Qs false)))))]
def Wct:MC:=.r0 X68
def Wcu:MC:=.seq (.seq W01 (.blk 0 (.seq W02 Wcs))) (.seq Wct .ret)
def X69:MC:=.seq W00 Wcu
attribute [go_sem] Y0w Y0x Y0y Y0z Y00 Y01 X64 X65 X66 X67 X68
theorem Jf1:KK QP 35 f35 [1] X69 [(Q0 2)] 50:=by refine⟨func35,?_,?_,?_,?_⟩<;>kernel_rfl
theorem W06:Xaa QP 35=true:=by kernel_rfl
theorem W07 (h:GI QP gp [(Q0 2)] res 50 X69 args):Does QP gp 35 args res:=Jf1.i W06 h
def Y02:=[Qa (Qv 2) (Q2 (Qn 0)),Qa (Qv 3) (Q2 (Qn 1)),Qa (Qv 4) (Qd (Qo (Qp (Qq (Qs false)))))]
def W08:MC:=.r0 Y02
def Y03:=[Qa (Qv 5) (Qg 0 (Qn 2)),Qa (Qv 6) (Qf 1 false (Qn 5)),Qa (Qv 7) (Qg 0 (Qn 3)),Qa (Qv 8) (Qf 1 false (Qn 7)),Qa (Qv 9) (Qe Qt Qz (Qn 6) (Qn 8)),Qa (Qv 10) (Qd (Qn 9)),Qb 10 true (Qv 11),Qa (Qv 11) (Qg 1 (Qn 2)),Qb 10 true (Qv 12),Qa (Qv 12) (Qf 3 true (Qn 11)),Qb 10 true (Qv 13),Qa (Qv 13) (Qg 1 (Qn 3)),Qb 10 true (Qv 14),Qa (Qv 14) (Qf 3 true (Qn 13)),Qb 10 true (Qv 15),Qa (Qv 15) (QH false [Qt,Qt,Q4] (Qn 12) (Qn 14)),Qa (Qv 16) (Qm (Qn 10) (Qn 15) (Qo (Qp (Qq (Qs false))))),Qa (Qv 17) (Qd (Qn 16)),Qb 17 true (Qv 18),Qa (Qv 18) (Qg 4 (Qn 2)),Qb 17 true (Qv 19),Qa (Qv 19) (Qf 1 false (Qn 18)),Qb 17 true (Qv 20),Qa (Qv 20) (Qg 4 (Qn 3)),Qb 17 true (Qv 21),Qa (Qv 21) (Qf 1 false (Qn 20)),Qb 17 true (Qv 22),Qa (Qv 22) (Qh 44 [(Qn 19),(Qn 21)]),Qa (Qv 23) (Qm (Qn 17) (Qn 22) (Qo (Qp (Qq (Qs false))))),Qa (Qv 24) (Qd (Qn 23)),Qb 24 true (Qv 25),Qa (Qv 25) (Qg 5 (Qn 2)),Qb 24 true (Qv 26),Qa (Qv 26) (Qf 1 false (Qn 25)),Qb 24 true (Qv 27),Qa (Qv 27) (Qg 5 (Qn 3)),Qb 24 true (Qv 28),Qa (Qv 28) (Qf 1 false (Qn 27)),Qb 24 true (Qv 29),Qa (Qv 29) (Qh 45 [(Qn 26),(Qn 28)]),Qa (Qv 30) (Qm (Qn 24) (Qn 29) (Qo (Qp (Qq (Qs false))))),Qa (Qv 4) (Qd (Qn 30))]
def W09:MC:=.r0 Y03
def Y04:MC:=.seq W08 (.seq W09 .ret)
attribute [go_sem] Y02 Y03
theorem Jf2:KK QP 43 f43 [2,3] Y04 [(Q0 4)] 31:=by refine⟨func43,?_,?_,?_,?_⟩<;>kernel_rfl
theorem W1a:Xaa QP 43=true:=by kernel_rfl
theorem W1b (h:GI QP gp [(Q0 4)] res 31 Y04 args):Does QP gp 43 args res:=Jf2.i W1a h
def Y05:=[Qa (Qv 4) (Qd (Qo (Qp (Qq (Qs false)))))]
def W1c:MC:=.r0 Y05
def Y06:=[Qa (Qv 6) (Qd (Qn 0)),Qa (Qv 7) (Qk Qt (Qn 6)),Qa (Qv 8) (Qd (Qn 1)),Qa (Qv 9) (Qk Qt (Qn 8)),Qa (Qv 10) (Qe Qt Q8 (Qn 7) (Qn 9))]
def W1d:MC:=.r0 Y06
def Y07:=[Qa (Qv 4) (Qd (Qo (Qp (Qq (Qs false)))))]
def W1e:MC:=.r0 Y07
def Y08:=[Qa (Qv 11) (Qd (Qn 0)),Qa (Qv 12) (Qk Qt (Qn 11)),Qa (Qv 13) (Qd (Qo (Qp (Qq (Qr Qu 0)))))]
def W1f:MC:=.r0 Y08
def Y09:=[Qa (Qv 14) (Qe Qt Qy (Qn 13) (Qn 12))]
def W1g:MC:=.r0 Y09
def X7a:=[Qa (Qv 15) (Qd (Qn 13)),Qa (Qv 5) (Qd (Qn 15))]
def Wcv:MC:=.r0 X7a
def X7b:=[Qa (Qv 16) (Qd (Qn 0)),Qa (Qv 17) (Qd (Qn 5)),Qa (Qv 18) (Qj 3 (Qn 16) (Qn 17)),Qa (Qv 19) (Qf 3 true (Qn 18)),Qa (Qv 20) (Qd (Qn 1)),Qa (Qv 21) (Qd (Qn 5)),Qa (Qv 22) (Qj 3 (Qn 20) (Qn 21)),Qa (Qv 23) (Qf 3 true (Qn 22)),Qa (Qv 24) (QH true [Qt,Qt,Q4] (Qn 19) (Qn 23))]
def Wcw:MC:=.reg true X7b
def X7c:=[Qa (Qv 4) (Qd (Qo (Qp (Qq (Qs false)))))]
def Wcx:MC:=.r0 X7c
def X7d:=[Qa (Qv 25) (Qe Qt Qx (Qn 13) (Qo (Qp (Qq (Qr Qu 1))))),Qa (Qv 13) (Qd (Qn 25))]
def Wcy:MC:=.r0 X7d
def Wcz:MC:=.seq (.blk 1 (.seq Wcv (.seq Wcw (.cond (Qn 24) (.seq Wcx .ret) .skip)))) Wcy
def X7e:=[Qa (Qv 4) (Qd (Qo (Qp (Qq (Qs true)))))]
def Wc0:MC:=.r0 X7e
def Wc1:MC:=.seq (.seq W1f (.blk 0 (.loop (.seq W1g (.seq (.cond (Qn 14) .skip (Q3 0)) Wcz))))) (.seq Wc0 .ret)
def X7f:MC:=.seq W1c (.seq (.seq W1d (.cond (Qn 10) (.seq W1e .ret) .skip)) Wc1)
attribute [go_sem] Y05 Y06 Y07 Y08 Y09 X7a X7b X7c X7d X7e
theorem Jf3:KK QP 44 f44 [] X7f [(Q0 4)] 26:=by refine⟨func44,?_,?_,?_,?_⟩<;>kernel_rfl
theorem W1h:Xaa QP 44=true:=by kernel_rfl
theorem W1i (h:GI QP gp [(Q0 4)] res 26 X7f args):Does QP gp 44 args res:=Jf3.i W1h h
def Y1a:=[Qa (Qv 4) (Qd (Qo (Qp (Qq (Qs false)))))]
def W1j:MC:=.r0 Y1a
def Y1b:=[Qa (Qv 6) (Qd (Qn 0)),Qa (Qv 7) (Qk Qt (Qn 6)),Qa (Qv 8) (Qd (Qn 1)),Qa (Qv 9) (Qk Qt (Qn 8)),Qa (Qv 10) (Qe Qt Q8 (Qn 7) (Qn 9))]
def W1k:MC:=.r0 Y1b
def Y1c:=[Qa (Qv 4) (Qd (Qo (Qp (Qq (Qs false)))))]
def W1l:MC:=.r0 Y1c
def Y1d:=[Qa (Qv 11) (Qd (Qn 0)),Qa (Qv 12) (Qk Qt (Qn 11)),Qa (Qv 13) (Qd (Qo (Qp (Qq (Qr Qu 0)))))]
def W1m:MC:=.r0 Y1d
def Y1e:=[Qa (Qv 14) (Qe Qt Qy (Qn 13) (Qn 12))]
def W1n:MC:=.r0 Y1e
def X7g:=[Qa (Qv 15) (Qd (Qn 13)),Qa (Qv 5) (Qd (Qn 15))]
def Wc2:MC:=.r0 X7g
def X7h:=[Qa (Qv 16) (Qd (Qn 0)),Qa (Qv 17) (Qd (Qn 5)),Qa (Qv 18) (Qj 1 (Qn 16) (Qn 17)),Qa (Qv 19) (Qf 1 false (Qn 18)),Qa (Qv 20) (Qd (Qn 1)),Qa (Qv 21) (Qd (Qn 5)),Qa (Qv 22) (Qj 1 (Qn 20) (Qn 21)),Qa (Qv 23) (Qf 1 false (Qn 22)),Qa (Qv 24) (Qe Qt Q8 (Qn 19) (Qn 23))]
def Wc3:MC:=.reg true X7h
def X7i:=[Qa (Qv 4) (Qd (Qo (Qp (Qq (Qs false)))))]
def Wc4:MC:=.r0 X7i
def X7j:=[Qa (Qv 25) (Qe Qt Qx (Qn 13) (Qo (Qp (Qq (Qr Qu 1))))),Qa (Qv 13) (Qd (Qn 25))]
def Wc5:MC:=.r0 X7j
def Wc6:MC:=.seq (.blk 1 (.seq Wc2 (.seq Wc3 (.cond (Qn 24) (.seq Wc4 .ret) .skip)))) Wc5
def X7k:=[Qa (Qv 4) (Qd (Qo (Qp (Qq (Qs true)))))]
def Wc7:MC:=.r0 X7k
def Wc8:MC:=.seq (.seq W1m (.blk 0 (.loop (.seq W1n (.seq (.cond (Qn 14) .skip (Q3 0)) Wc6))))) (.seq Wc7 .ret)
def X7l:MC:=.seq W1j (.seq (.seq W1k (.cond (Qn 10) (.seq W1l .ret) .skip)) Wc8)
attribute [go_sem] Y1a Y1b Y1c Y1d Y1e X7g X7h X7i X7j X7k
theorem Jf4:KK QP 45 f45 [] X7l [(Q0 4)] 26:=by refine⟨func45,?_,?_,?_,?_⟩<;>kernel_rfl
theorem W1o:Xaa QP 45=true:=by kernel_rfl
theorem W1p (h:GI QP gp [(Q0 4)] res 26 X7l args):Does QP gp 45 args res:=Jf4.i W1o h
def Y1f:=[Qa (Qv 6) (Qd (Qo (Qp (Qq (Qs false)))))]
def W1q:MC:=.r0 Y1f
def Y1g:=[Qa (Qv 10) (Qd (Qn 0)),Qa (Qv 11) (Qk Qt (Qn 10)),Qa (Qv 12) (Qd (Qn 1)),Qa (Qv 13) (Qk Qt (Qn 12)),Qa (Qv 14) (Qe Qt Q8 (Qn 11) (Qn 13))]
def W1r:MC:=.r0 Y1g
def Y1h:=[Qa (Qv 6) (Qd (Qo (Qp (Qq (Qs false)))))]
def W1s:MC:=.r0 Y1h
def Y1i:=[Qa (Qv 15) (Qd (Qn 0)),Qa (Qv 16) (Qk Qt (Qn 15)),Qa (Qv 17) (Qd (Qo (Qp (Qq (Qr Qu 0)))))]
def W1t:MC:=.r0 Y1i
def Y1j:=[Qa (Qv 18) (Qe Qt Qy (Qn 17) (Qn 16))]
def W1u:MC:=.r0 Y1j
def X7m:=[Qa (Qv 19) (Qd (Qn 17)),Qa (Qv 20) (Qj 6 (Qn 15) (Qn 17)),Qa (Qv 21) (Qf 6 true (Qn 20)),Qa (Qv 8) (Q5 [(Qr Qu 0),(Qr Qu 0),(Qr Qu 0),(Q1 (Qw #[])),(QA []),(QA [])]),Qa (Qv 7) (Qd (Qn 19)),Qa none (Ql 6 (Qn 8) (Qn 21))]
def Wc9:MC:=.r0 X7m
def X7n:=[Qa (Qv 22) (Qd (Qn 1)),Qa (Qv 23) (Qd (Qn 7)),Qa (Qv 24) (Qj 6 (Qn 22) (Qn 23)),Qa (Qv 25) (Qf 6 true (Qn 24)),Qa (Qv 9) (Q5 [(Qr Qu 0),(Qr Qu 0),(Qr Qu 0),(Q1 (Qw #[])),(QA []),(QA [])]),Qa none (Ql 6 (Qn 9) (Qn 25))]
def Wda:MC:=.r0 X7n
def X7o:=[Qa (Qv 26) (Qd (Qn 2)),Qa (Qv 27) (Qf 6 true (Qn 8)),Qa (Qv 28) (Qf 6 true (Qn 9)),Qa (Qv 29) (QF (Qn 26) [(Qn 27),(Qn 28)]),Qa (Qv 30) (QC (Qn 29))]
def Wdb:MC:=.r0 X7o
def X7p:=[Qa (Qv 6) (Qd (Qo (Qp (Qq (Qs false)))))]
def Wdc:MC:=.r0 X7p
def Wdd:MC:=.seq Wc9 (.seq Wda (.seq Wdb (.cond (Qn 30) (.seq Wdc .ret) .skip)))
def X7q:=[Qa (Qv 31) (Qe Qt Qx (Qn 17) (Qo (Qp (Qq (Qr Qu 1))))),Qa (Qv 17) (Qd (Qn 31))]
def Wde:MC:=.r0 X7q
def Wdf:MC:=.seq W1t (.blk 0 (.loop (.seq W1u (.seq (.cond (Qn 18) .skip (Q3 0)) (.seq (.blk 1 Wdd) Wde)))))
def X7r:=[Qa (Qv 6) (Qd (Qo (Qp (Qq (Qs true)))))]
def Wdg:MC:=.r0 X7r
def Wdh:MC:=.seq (.seq W1r (.cond (Qn 14) (.seq W1s .ret) .skip)) (.seq Wdf (.seq Wdg .ret))
def X7s:MC:=.seq W1q Wdh
attribute [go_sem] Y1f Y1g Y1h Y1i Y1j X7m X7n X7o X7p X7q X7r
theorem Jf5:KK QP 46 f46 [] X7s [(Q0 6)] 32:=by refine⟨func46,?_,?_,?_,?_⟩<;>kernel_rfl
theorem W1v:Xaa QP 46=true:=by kernel_rfl
theorem W1w (h:GI QP gp [(Q0 6)] res 32 X7s args):Does QP gp 46 args res:=Jf5.i W1v h
def Y1k:=[Qa (Qv 1) (Q2 (Qn 0)),Qa (Qv 2) (Qd (Qo (Qp (Qq (Qr Qu 0))))),Qa (Qv 3) (Qd (Qo (Qp (Qq (Qr Qu 0)))))]
def W1x:MC:=.r0 Y1k
def Y1l:=[Qa (Qv 4) (Qf 2 true (Qn 1)),Qa (Qv 5) (Qh 72 [(Qn 4)]),Qa (Qv 6) (Qh 71 [(Qn 5)]),Qa (Qv 7) (Qi (Qn 6) 0),Qa (Qv 8) (Qi (Qn 6) 1),Qa (Qv 2) (Qd (Qn 7)),Qa (Qv 3) (Qd (Qn 8))]
def W1y:MC:=.r0 Y1l
def Y1m:MC:=.seq W1x (.seq W1y .ret)
attribute [go_sem] Y1k Y1l
theorem Jf6:KK QP 47 f47 [1] Y1m [(Q0 2),(Q0 3)] 9:=by refine⟨func47,?_,?_,?_,?_⟩<;>kernel_rfl
theorem W1z:Xaa QP 47=true:=by kernel_rfl
theorem W10 (h:GI QP gp [(Q0 2),(Q0 3)] res 9 Y1m args):Does QP gp 47 args res:=Jf6.i W1z h
def Xqx:=[Qa (Qv 2) (Q2 (Qn 0)),Qa (Qv 4) (Qd (Qo (Qp A.nil))),Qa (Qv 5) (Qd (Qo (Qp (Qq (Qr Qu 0)))))]
def W11:MC:=.r0 Xqx
def Xqy:=[Qa (Qv 12) (Qf 2 true (Qn 2)),Qa (Qv 13) (Qd (Qn 1)),Qa (Qv 14) (Qh 74 [(Qn 12),(Qn 13)]),Qa (Qv 11) (Qd (Qn 14)),Qa (Qv 15) (Qi (Qn 11) 0),Qa (Qv 16) (Qi (Qn 11) 1),Qa (Qv 6) (Q5 [(Qr Qu 0),(Qr Qu 0),(Qr Qu 0),(Q1 (Qw #[])),(QA []),(QA []),(Qr Qu 0)]),Qa none (Ql 7 (Qn 6) (Qn 15)),Qa (Qv 7) (Qd (Qn 16))]
def W12:MC:=.r0 Xqy
def Xqz:=[Qa (Qv 8) (Qd (Qo (Qp A.nil)))]
def W13:MC:=.r0 Xqz
def Xq0:=[Qa (Qv 17) (Qf 7 true (Qn 6)),Qa (Qv 18) (Qh 75 [(Qn 17)]),Qa (Qv 19) (Qk Qt (Qn 18)),Qa (Qv 20) (Qd (Qo (Qp (Qq (Qr Qu 0)))))]
def W14:MC:=.r0 Xq0
def Xnd:=[Qa (Qv 21) (Qe Qt Qy (Qn 20) (Qn 19))]
def W15:MC:=.r0 Xnd
def Xq1:=[Qa (Qv 22) (Qj 4 (Qn 18) (Qn 20)),Qa (Qv 23) (Qf 4 true (Qn 22)),Qa (Qv 10) (Q5 [(Qr Qu 0),(Qr Qu 0),(Q1 (Qw #[])),(Qr Qu 0)]),Qa none (Ql 4 (Qn 10) (Qn 23))]
def W16:MC:=.r0 Xq1
def Xq2:=[Qa (Qv 24) (Qd (Qn 8)),Qa (Qv 25) (Qg 0 (Qn 10)),Qa (Qv 26) (Qf 3 true (Qn 25)),Qa (Qv 27) (Q6 3 [(Qr Qu 0),(Qr Qu 0),(Q1 (Qw #[]))] 1 [(0,(Qn 26))]),Qa (Qv 28) (QE 39 3 32 (Qn 24) (Qn 27)),Qa (Qv 8) (Qd (Qn 28))]
def W17:MC:=.r0 Xq2
def Xlk:=[Qa (Qv 29) (Qe Qt Qx (Qn 20) (Qo (Qp (Qq (Qr Qu 1))))),Qa (Qv 20) (Qd (Qn 29))]
def Wdi:MC:=.r0 Xlk
def Wdj:MC:=.seq W15 (.seq (.cond (Qn 21) .skip (Q3 0)) (.seq (.blk 1 (.seq W16 W17)) Wdi))
def Xll:=[Qa (Qv 30) (Qd (Qn 8)),Qa (Qv 31) (Qd (Qn 7)),Qa (Qv 4) (Qd (Qn 30)),Qa (Qv 5) (Qd (Qn 31))]
def Wdk:MC:=.r0 Xll
def Wdl:MC:=.seq W13 (.seq (.seq W14 (.blk 0 (.loop Wdj))) (.seq Wdk .ret))
def X7t:MC:=.seq W11 (.seq W12 Wdl)
theorem Jf7:KK QP 50 f50 [2] X7t [(Q0 4),(Q0 5)] 32:=by refine⟨func50,?_,?_,?_,?_⟩<;>kernel_rfl
theorem W18:Xaa QP 50=true:=by kernel_rfl
theorem W19 (h:GI QP gp [(Q0 4),(Q0 5)] res 32 X7t args):Does QP gp 50 args res:=Jf7.i W18 h
def Xji:=[Qa (Qv 2) (Q2 (Qn 0)),Qa (Qv 4) (Qd (Qo (Qp A.nil))),Qa (Qv 5) (Qd (Qo (Qp (Qq (Qr Qu 0)))))]
def W2a:MC:=.r0 Xji
def Xjj:=[Qa (Qv 12) (Qf 2 true (Qn 2)),Qa (Qv 13) (Qd (Qn 1)),Qa (Qv 14) (Qh 74 [(Qn 12),(Qn 13)]),Qa (Qv 11) (Qd (Qn 14)),Qa (Qv 15) (Qi (Qn 11) 0),Qa (Qv 16) (Qi (Qn 11) 1),Qa (Qv 6) (Q5 [(Qr Qu 0),(Qr Qu 0),(Qr Qu 0),(Q1 (Qw #[])),(QA []),(QA []),(Qr Qu 0)]),Qa none (Ql 7 (Qn 6) (Qn 15)),Qa (Qv 7) (Qd (Qn 16))]
def W2b:MC:=.r0 Xjj
def Xjk:=[Qa (Qv 17) (Qd (Qn 7)),Qa (Qv 18) (Qe Qt Qz (Qn 17) (Qo (Qp (Qq (Qr Qu 0))))),Qa (Qv 19) (Qd (Qn 18)),Qb 19 true (Qv 20),Qa (Qv 20) (Qg 0 (Qn 6)),Qb 19 true (Qv 21),Qa (Qv 21) (Qg 0 (Qn 20)),Qb 19 true (Qv 22),Qa (Qv 22) (Qf 1 false (Qn 21)),Qb 19 true (Qv 23),Qa (Qv 23) (Qe Qt Qz (Qn 22) (Qo (Qp (Qq (Qr Qu 1))))),Qa (Qv 24) (Qm (Qn 19) (Qn 23) (Qo (Qp (Qq (Qs false)))))]
def W2c:MC:=.r0 Xjk
def Xjl:=[Qa (Qv 25) (Qg 0 (Qn 6)),Qa (Qv 26) (Qg 5 (Qn 25)),Qa (Qv 27) (Qf 1 false (Qn 26)),Qa (Qv 28) (Qh 76 [(Qn 27)]),Qa (Qv 29) (Qd (Qn 7)),Qa (Qv 4) (Qd (Qn 28)),Qa (Qv 5) (Qd (Qn 29))]
def W2d:MC:=.r0 Xjl
def Xjm:=[Qa (Qv 8) (Qd (Qo (Qp A.nil)))]
def W2e:MC:=.r0 Xjm
def Xf6:=[Qa (Qv 30) (Qf 7 true (Qn 6)),Qa (Qv 31) (Qh 75 [(Qn 30)]),Qa (Qv 32) (Qk Qt (Qn 31)),Qa (Qv 33) (Qd (Qo (Qp (Qq (Qr Qu 0)))))]
def Wdm:MC:=.r0 Xf6
def Xer:=[Qa (Qv 34) (Qe Qt Qy (Qn 33) (Qn 32))]
def Wdn:MC:=.r0 Xer
def Xf7:=[Qa (Qv 35) (Qj 4 (Qn 31) (Qn 33)),Qa (Qv 36) (Qf 4 true (Qn 35)),Qa (Qv 10) (Q5 [(Qr Qu 0),(Qr Qu 0),(Q1 (Qw #[])),(Qr Qu 0)]),Qa none (Ql 4 (Qn 10) (Qn 36))]
def Wdo:MC:=.r0 Xf7
def Xf8:=[Qa (Qv 37) (Qd (Qn 8)),Qa (Qv 38) (Qg 3 (Qn 10)),Qa (Qv 39) (Qf 1 false (Qn 38)),Qa (Qv 40) (Q6 1 [(Qr Qu 0)] 1 [(0,(Qn 39))]),Qa (Qv 41) (QE 3 1 8 (Qn 37) (Qn 40)),Qa (Qv 8) (Qd (Qn 41))]
def Wdp:MC:=.r0 Xf8
def Xf9:=[Qa (Qv 42) (Qe Qt Qx (Qn 33) (Qo (Qp (Qq (Qr Qu 1))))),Qa (Qv 33) (Qd (Qn 42))]
def Wdq:MC:=.r0 Xf9
def Wdr:MC:=.seq Wdn (.seq (.cond (Qn 34) .skip (Q3 0)) (.seq (.blk 1 (.seq Wdo Wdp)) Wdq))
def Xga:=[Qa (Qv 43) (Qd (Qn 8)),Qa (Qv 44) (Qd (Qn 7)),Qa (Qv 4) (Qd (Qn 43)),Qa (Qv 5) (Qd (Qn 44))]
def Wds:MC:=.r0 Xga
def Wdt:MC:=.seq W2e (.seq (.seq Wdm (.blk 0 (.loop Wdr))) (.seq Wds .ret))
def Wdu:MC:=.seq W2b (.seq (.seq W2c (.cond (Qn 24) (.seq W2d .ret) .skip)) Wdt)
def X7u:MC:=.seq W2a Wdu
theorem Jf8:KK QP 51 f51 [2] X7u [(Q0 4),(Q0 5)] 45:=by refine⟨func51,?_,?_,?_,?_⟩<;>kernel_rfl
theorem W2f:Xaa QP 51=true:=by kernel_rfl
theorem W2g (h:GI QP gp [(Q0 4),(Q0 5)] res 45 X7u args):Does QP gp 51 args res:=Jf8.i W2f h
def Y1n:=[Qa (Qv 1) (Q2 (Qn 0)),Qa (Qv 2) (Qd (Qo (Qp (Qq (Qs false)))))]
def W2h:MC:=.r0 Y1n
def Y1o:=[Qa (Qv 8) (Qf 2 true (Qn 1)),Qa (Qv 9) (Qh 77 [(Qn 8)]),Qa (Qv 7) (Qd (Qn 9)),Qa (Qv 10) (Qi (Qn 7) 0),Qa (Qv 11) (Qi (Qn 7) 1),Qa (Qv 3) (Qd (Qn 10)),Qa (Qv 4) (Qd (Qn 11))]
def W2i:MC:=.r0 Y1o
def Y1p:=[Qa (Qv 12) (Qd (Qn 3)),Qa (Qv 13) (Qk Qt (Qn 12)),Qa (Qv 14) (Qd (Qo (Qp (Qq (Qr Qu 0)))))]
def W2j:MC:=.r0 Y1p
def Y1q:=[Qa (Qv 15) (Qe Qt Qy (Qn 14) (Qn 13))]
def W2k:MC:=.r0 Y1q
def Y1r:=[Qa (Qv 16) (Qd (Qn 14)),Qa (Qv 17) (Qj 1 (Qn 12) (Qn 14)),Qa (Qv 18) (Qf 1 false (Qn 17)),Qa (Qv 5) (Qd (Qn 16)),Qa (Qv 6) (Qd (Qn 18))]
def W2l:MC:=.r0 Y1r
def Y1s:=[Qa (Qv 19) (Qg 1 (Qn 1)),Qa (Qv 20) (Qf 1 false (Qn 19)),Qa (Qv 21) (Qd (Qn 5)),Qa (Qv 22) (Qj 6 (Qn 20) (Qn 21)),Qa (Qv 23) (Qg 5 (Qn 22)),Qa (Qv 24) (Qf 1 false (Qn 23)),Qa (Qv 25) (Qk Qt (Qn 24)),Qa (Qv 26) (Qe Qt Q7 (Qn 25) (Qo (Qp (Qq (Qr Qu 0)))))]
def W2m:MC:=.r0 Y1s
def Y1t:=[Qa (Qv 27) (Qd (Qn 6)),Qa (Qv 28) (Qe Qt Qx (Qn 27) (Qo (Qp (Qq (Qr Qu 1))))),Qa (Qv 6) (Qd (Qn 28))]
def W2n:MC:=.r0 Y1t
def X7v:=[Qa (Qv 29) (Qd (Qn 6)),Qa (Qv 30) (Qe Qt Q7 (Qn 29) (Qo (Qp (Qq (Qr Qu 24)))))]
def Wdv:MC:=.r0 X7v
def X7w:=[Qa (Qv 2) (Qd (Qo (Qp (Qq (Qs true)))))]
def Wdw:MC:=.r0 X7w
def Wdx:MC:=.seq (.seq W2m (.cond (Qn 26) W2n .skip)) (.seq Wdv (.cond (Qn 30) (.seq Wdw .ret) .skip))
def X7x:=[Qa (Qv 31) (Qe Qt Qx (Qn 14) (Qo (Qp (Qq (Qr Qu 1))))),Qa (Qv 14) (Qd (Qn 31))]
def Wdy:MC:=.r0 X7x
def Wdz:MC:=.seq W2k (.seq (.cond (Qn 15) .skip (Q3 0)) (.seq (.blk 1 (.seq W2l Wdx)) Wdy))
def X7y:=[Qa (Qv 2) (Qd (Qo (Qp (Qq (Qs false)))))]
def Wd0:MC:=.r0 X7y
def Wd1:MC:=.seq W2i (.seq (.seq W2j (.blk 0 (.loop Wdz))) (.seq Wd0 .ret))
def X7z:MC:=.seq W2h Wd1
attribute [go_sem] Y1n Y1o Y1p Y1q Y1r Y1s Y1t X7v X7w X7x X7y
theorem Jf9:KK QP 54 f54 [1] X7z [(Q0 2)] 32:=by refine⟨func54,?_,?_,?_,?_⟩<;>kernel_rfl
theorem W2o:Xaa QP 54=true:=by kernel_rfl
theorem W2p (h:GI QP gp [(Q0 2)] res 32 X7z args):Does QP gp 54 args res:=Jf9.i W2o h
def Y1u:=[Qa (Qv 2) (Q2 (Qn 0)),Qa (Qv 4) (Qd (Qo (Qp (Qq (Qr Qu 0)))))]
def W2q:MC:=.r0 Y1u
def Y1v:=[Qa (Qv 11) (Qf 2 true (Qn 2)),Qa (Qv 12) (Qh 81 [(Qn 11)]),Qa (Qv 10) (Qd (Qn 12)),Qa (Qv 13) (Qi (Qn 10) 0),Qa (Qv 14) (Qi (Qn 10) 1),Qa (Qv 5) (Qd (Qn 13)),Qa (Qv 6) (Qd (Qn 14))]
def W2r:MC:=.r0 Y1v
def Y1w:=[Qa (Qv 7) (Qd (Qo (Qp (Qq (Qr Qu 0)))))]
def W2s:MC:=.r0 Y1w
def Y1x:=[Qa (Qv 15) (Qd (Qn 5)),Qa (Qv 16) (Qk Qt (Qn 15)),Qa (Qv 17) (Qd (Qo (Qp (Qq (Qr Qu 0)))))]
def W2t:MC:=.r0 Y1x
def Y1y:=[Qa (Qv 18) (Qe Qt Qy (Qn 17) (Qn 16))]
def W2u:MC:=.r0 Y1y
def Y1z:=[Qa (Qv 19) (Qd (Qn 17)),Qa (Qv 20) (Qj 1 (Qn 15) (Qn 17)),Qa (Qv 21) (Qf 1 false (Qn 20)),Qa (Qv 8) (Qd (Qn 19)),Qa (Qv 9) (Qd (Qn 21))]
def W2v:MC:=.r0 Y1z
def Y10:=[Qa (Qv 22) (Qd (Qn 1)),Qa (Qv 23) (Qd (Qn 8)),Qa (Qv 24) (Qj 1 (Qn 22) (Qn 23)),Qa (Qv 25) (Qf 1 false (Qn 24)),Qa (Qv 26) (Qe Qt Q7 (Qn 25) (Qo (Qp (Qq (Qr Qu 0)))))]
def W2w:MC:=.r0 Y10
def X70:=[Qa (Qv 9) (Qd (Qo (Qp (Qq (Qr Qu 1)))))]
def Wd2:MC:=.r0 X70
def X71:=[Qa (Qv 27) (Qd (Qn 7)),Qa (Qv 28) (Qd (Qn 9)),Qa (Qv 29) (Qe Qt Qx (Qn 27) (Qn 28)),Qa (Qv 7) (Qd (Qn 29))]
def Wd3:MC:=.r0 X71
def Wd4:MC:=.seq W2v (.seq (.seq W2w (.cond (Qn 26) Wd2 .skip)) Wd3)
def X72:=[Qa (Qv 30) (Qe Qt Qx (Qn 17) (Qo (Qp (Qq (Qr Qu 1))))),Qa (Qv 17) (Qd (Qn 30))]
def Wd5:MC:=.r0 X72
def Wd6:MC:=.seq W2t (.blk 0 (.loop (.seq W2u (.seq (.cond (Qn 18) .skip (Q3 0)) (.seq (.blk 1 Wd4) Wd5)))))
def X73:=[Qa (Qv 31) (Qd (Qn 7)),Qa (Qv 4) (Qd (Qn 31))]
def Wd7:MC:=.r0 X73
def Wd8:MC:=.seq W2r (.seq W2s (.seq Wd6 (.seq Wd7 .ret)))
def X74:MC:=.seq W2q Wd8
attribute [go_sem] Y1u Y1v Y1w Y1x Y1y Y1z Y10 X70 X71 X72 X73
theorem Jga:KK QP 56 f56 [2] X74 [(Q0 4)] 32:=by refine⟨func56,?_,?_,?_,?_⟩<;>kernel_rfl
theorem W2x:Xaa QP 56=true:=by kernel_rfl
theorem W2y (h:GI QP gp [(Q0 4)] res 32 X74 args):Does QP gp 56 args res:=Jga.i W2x h
def Y11:=[Qa (Qv 1) (QS (Qn 0)),Qa (Qv 2) (Qd (Qo (Qp (Qq QJ))))]
def W2z:MC:=.r0 Y11
def Y12:=[Qa (Qv 3) (QT (Go.Fn.func 82) [(Qn 1)]),Qa (Qv 2) (Qd (Qn 3))]
def W20:MC:=.r0 Y12
def Y13:MC:=.seq W2z (.seq W20 .ret)
attribute [go_sem] Y11 Y12
theorem Jgb:KK QP 57 f57 [] Y13 [(Q0 2)] 4:=by refine⟨func57,?_,?_,?_,?_⟩<;>kernel_rfl
theorem W21:Xaa QP 57=true:=by kernel_rfl
theorem Wd9 (h:GT QP gp [(Q0 2)] pre R 4 Y13 args):Tri QP gp 57 args pre R:=Jgb.t h
-- f58: trC none
def Y14:=[Qa (Qv 1) (Q2 (Qn 0)),Qa (Qv 2) (Qd (Qo (Qp (Qq (Q1 (Qw #[])))))),Qa (Qv 3) (Qd (Qo (Qp (Qq (Qr Qu 0)))))]
def W22:MC:=.r0 Y14
def Y15:=[Qa (Qv 4) (Qf 3 true (Qn 1)),Qa (Qv 5) (Qh 89 [(Qn 4)]),Qa (Qv 6) (QC (Qn 5))]
def W23:MC:=.r0 Y15
def Y16:=[Qa (Qv 2) (Qd (Qo (Qp (Qq (Q1 (Qw #[])))))),Qa (Qv 3) (Qd (Qo (Qp (Qq (Qr Qu 60)))))]
def W24:MC:=.r0 Y16
def Y17:=[Qa (Qv 8) (Qg 0 (Qn 1)),Qa (Qv 9) (Qf 1 false (Qn 8)),Qa (Qv 10) (Qe Qt Qz (Qn 9) (Qo (Qp (Qq (Qr Qu 0))))),Qa (Qv 7) (Qd (Qn 10))]
def W25:MC:=.r0 Y17
def Y18:=[Qa (Qv 2) (Qd (Qo (Qp (Qq (Q1 (Qw #[110,117,108,108])))))),Qa (Qv 3) (Qd (Qo (Qp (Qq (Qr Qu 0)))))]
def W26:MC:=.r0 Y18
def X75:=[Qa (Qv 12) (Qg 0 (Qn 1)),Qa (Qv 13) (Qf 1 false (Qn 12)),Qa (Qv 14) (Qe Qt Qz (Qn 13) (Qo (Qp (Qq (Qr Qu 1))))),Qa (Qv 15) (Qd (Qn 14)),Qb 15 true (Qv 16),Qa (Qv 16) (Qg 1 (Qn 1)),Qb 15 true (Qv 17),Qa (Qv 17) (Qf 1 false (Qn 16)),Qb 15 true (Qv 18),Qa (Qv 18) (Qe Qt Qz (Qn 17) (Qo (Qp (Qq (Qr Qu 1))))),Qa (Qv 19) (Qm (Qn 15) (Qn 18) (Qo (Qp (Qq (Qs false))))),Qa (Qv 11) (Qd (Qn 19))]
def Wea:MC:=.r0 X75
def X76:=[Qa (Qv 2) (Qd (Qo (Qp (Qq (Q1 (Qw #[116,114,117,101])))))),Qa (Qv 3) (Qd (Qo (Qp (Qq (Qr Qu 0)))))]
def Web:MC:=.r0 X76
def X77:=[Qa (Qv 21) (Qg 0 (Qn 1)),Qa (Qv 22) (Qf 1 false (Qn 21)),Qa (Qv 23) (Qe Qt Qz (Qn 22) (Qo (Qp (Qq (Qr Qu 1))))),Qa (Qv 20) (Qd (Qn 23))]
def Wec:MC:=.r0 X77
def X78:=[Qa (Qv 2) (Qd (Qo (Qp (Qq (Q1 (Qw #[102,97,108,115,101])))))),Qa (Qv 3) (Qd (Qo (Qp (Qq (Qr Qu 0)))))]
def Wed:MC:=.r0 X78
def X79:=[Qa (Qv 25) (Qg 0 (Qn 1)),Qa (Qv 26) (Qf 1 false (Qn 25)),Qa (Qv 27) (Qe Qt Qz (Qn 26) (Qo (Qp (Qq (Qr Qu 2))))),Qa (Qv 24) (Qd (Qn 27))]
def Wee:MC:=.r0 X79
def X8a:=[Qa (Qv 28) (Qg 1 (Qn 1)),Qa (Qv 29) (Qf 1 false (Qn 28)),Qa (Qv 30) (Qh 90 [(Qn 29)]),Qa (Qv 2) (Qd (Qn 30)),Qa (Qv 3) (Qd (Qo (Qp (Qq (Qr Qu 0)))))]
def Wef:MC:=.r0 X8a
def Weg:MC:=.seq Wec (.cond (Qn 20) (.seq Wed .ret) (.seq Wee (.cond (Qn 24) (.seq Wef .ret) .skip)))
def Weh:MC:=.cond (Qn 7) (.seq W26 .ret) (.seq Wea (.cond (Qn 11) (.seq Web .ret) Weg))
def X8b:=[Qa (Qv 31) (Qg 2 (Qn 1)),Qa (Qv 32) (Qf 1 false (Qn 31)),Qa (Qv 33) (Qh 91 [(Qn 32)]),Qa (Qv 34) (Qi (Qn 33) 0),Qa (Qv 35) (Qi (Qn 33) 1),Qa (Qv 2) (Qd (Qn 34)),Qa (Qv 3) (Qd (Qn 35))]
def Wei:MC:=.r0 X8b
def Wej:MC:=.seq (.seq W23 (.cond (Qn 6) (.seq W24 .ret) .skip)) (.seq (.blk 0 (.seq W25 Weh)) (.seq Wei .ret))
def X8c:MC:=.seq W22 Wej
attribute [go_sem] Y14 Y15 Y16 Y17 Y18 X75 X76 X77 X78 X79 X8a X8b
theorem Jgc:KK QP 61 f61 [1] X8c [(Q0 2),(Q0 3)] 36:=by refine⟨func61,?_,?_,?_,?_⟩<;>kernel_rfl
theorem W27:Xaa QP 61=true:=by kernel_rfl
theorem W28 (h:GI QP gp [(Q0 2),(Q0 3)] res 36 X8c args):Does QP gp 61 args res:=Jgc.i W27 h
def Y19:=[Qa (Qv 12) (Qd (Qn 0)),Qa (Qv 13) (Qd (Qn 1)),Qa (Qv 14) (Qh 32 [(Qn 12),(Qn 13)]),Qa (Qv 11) (Qd (Qn 14)),Qa (Qv 15) (Qi (Qn 11) 0),Qa (Qv 16) (Qi (Qn 11) 1),Qa (Qv 8) (Qd (Qn 15)),Qa (Qv 9) (Qd (Qn 16))]
def W29:MC:=.r0 Y19
def Y2a:=[Qa (Qv 10) (Qd (Qo (Qp (Qq (Q1 (Qw #[]))))))]
def W3a:MC:=.r0 Y2a
def Y2b:=[Qa (Qv 17) (Qd (Qn 0)),Qa (Qv 18) (QB (Qn 17)),Qa (Qv 19) (Qg 2 (Qn 18)),Qa (Qv 20) (Qf 1 false (Qn 19)),Qa (Qv 21) (Qd (Qn 1)),Qa (Qv 22) (Qj 1 (Qn 20) (Qn 21)),Qa (Qv 23) (Qf 1 false (Qn 22)),Qa (Qv 24) (Qe Qt Q7 (Qn 23) (Qo (Qp (Qq (Qr Qu 0)))))]
def W3b:MC:=.r0 Y2b
def Y2c:=[Qa (Qv 25) (Qd (Qn 0)),Qa (Qv 26) (QB (Qn 25)),Qa (Qv 27) (Qg 2 (Qn 26)),Qa (Qv 28) (Qf 1 false (Qn 27)),Qa (Qv 29) (Qd (Qn 1)),Qa (Qv 30) (Qj 1 (Qn 28) (Qn 29)),Qa (Qv 31) (Qf 1 false (Qn 30)),Qa (Qv 32) (Qh 20 [(Qn 31)]),Qa (Qv 33) (Qe Q4 Qx (Qo (Qp (Qq (Q1 (Qw #[97]))))) (Qn 32)),Qa (Qv 10) (Qd (Qn 33))]
def W3c:MC:=.r0 Y2c
def Y2d:=[Qa (Qv 45) (Qd (Qn 9)),Qa (Qv 44) (Qd (Qn 45))]
def W3d:MC:=.r0 Y2d
def Y2e:=[Qa (Qv 46) (Qd (Qn 0)),Qa (Qv 47) (Qd (Qn 0)),Qa (Qv 48) (QB (Qn 47)),Qa (Qv 49) (Qg 4 (Qn 48)),Qa (Qv 50) (Qf 1 false (Qn 49)),Qa (Qv 51) (Qd (Qn 2)),Qa (Qv 52) (Qe Q4 Qx (Qn 51) (Qo (Qp (Qq (Q1 (Qw #[32])))))),Qa (Qv 53) (Qd (Qn 8)),Qa (Qv 54) (Qe Q4 Qx (Qn 52) (Qn 53)),Qa (Qv 55) (Q6 1 [(Q1 (Qw #[]))] 1 [(0,(Qn 54))]),Qa (Qv 56) (QE 9 1 16 (Qn 50) (Qn 55)),Qa (Qv 57) (QB (Qn 46)),Qa (Qv 58) (Qg 4 (Qn 57)),Qa none (Ql 1 (Qn 58) (Qn 56))]
def W3e:MC:=.r0 Y2e
def X8d:=[Qa (Qv 60) (Qd (Qn 0)),Qa (Qv 61) (QB (Qn 60)),Qa (Qv 62) (Qg 3 (Qn 61)),Qa (Qv 63) (Qf 1 false (Qn 62)),Qa (Qv 64) (Qd (Qn 1)),Qa (Qv 65) (Qh 92 [(Qn 63),(Qn 64)]),Qa (Qv 66) (Qe Qt QD (Qn 65) (Qo (Qp (Qq (Qr Qu 0))))),Qa (Qv 59) (Qd (Qn 66))]
def Wek:MC:=.r0 X8d
def X8e:=[Qa (Qv 67) (Qd (Qn 0)),Qa (Qv 68) (Qd (Qn 0)),Qa (Qv 69) (QB (Qn 68)),Qa (Qv 70) (Qg 4 (Qn 69)),Qa (Qv 71) (Qf 1 false (Qn 70)),Qa (Qv 72) (Qd (Qn 2)),Qa (Qv 73) (Qe Q4 Qx (Qn 72) (Qo (Qp (Qq (Q1 (Qw #[32,42])))))),Qa (Qv 74) (Qd (Qn 10)),Qa (Qv 75) (Qe Q4 Qx (Qn 73) (Qn 74)),Qa (Qv 76) (Q6 1 [(Q1 (Qw #[]))] 1 [(0,(Qn 75))]),Qa (Qv 77) (QE 9 1 16 (Qn 71) (Qn 76)),Qa (Qv 78) (QB (Qn 67)),Qa (Qv 79) (Qg 4 (Qn 78)),Qa none (Ql 1 (Qn 79) (Qn 77))]
def Wel:MC:=.r0 X8e
def X8f:=[Qa (Qv 81) (Qd (Qn 10)),Qa (Qv 82) (Qe Q4 Q8 (Qn 81) (Qo (Qp (Qq (Q1 (Qw #[])))))),Qa (Qv 80) (Qd (Qn 82))]
def Wem:MC:=.r0 X8f
def X8g:=[Qa (Qv 83) (Qd (Qn 0)),Qa (Qv 84) (Qd (Qn 0)),Qa (Qv 85) (QB (Qn 84)),Qa (Qv 86) (Qg 4 (Qn 85)),Qa (Qv 87) (Qf 1 false (Qn 86)),Qa (Qv 88) (Qd (Qn 2)),Qa (Qv 89) (Qe Q4 Qx (Qn 88) (Qo (Qp (Qq (Q1 (Qw #[32,38])))))),Qa (Qv 90) (Qd (Qn 10)),Qa (Qv 91) (Qe Q4 Qx (Qn 89) (Qn 90)),Qa (Qv 92) (Q6 1 [(Q1 (Qw #[]))] 1 [(0,(Qn 91))]),Qa (Qv 93) (QE 9 1 16 (Qn 87) (Qn 92)),Qa (Qv 94) (QB (Qn 83)),Qa (Qv 95) (Qg 4 (Qn 94)),Qa none (Ql 1 (Qn 95) (Qn 93))]
def Wen:MC:=.r0 X8g
def X8h:=[Qa (Qv 34) (Qd (Qn 0)),Qa (Qv 35) (Qd (Qn 0)),Qa (Qv 36) (QB (Qn 35)),Qa (Qv 37) (Qg 4 (Qn 36)),Qa (Qv 38) (Qf 1 false (Qn 37)),Qa (Qv 39) (Qd (Qn 2)),Qa (Qv 40) (Q6 1 [(Q1 (Qw #[]))] 1 [(0,(Qn 39))]),Qa (Qv 41) (QE 9 1 16 (Qn 38) (Qn 40)),Qa (Qv 42) (QB (Qn 34)),Qa (Qv 43) (Qg 4 (Qn 42)),Qa none (Ql 1 (Qn 43) (Qn 41))]
def Weo:MC:=.r0 X8h
def Wep:MC:=.cond (Qn 59) (.seq Wel .ret) (.seq Wem (.cond (Qn 80) Wen Weo))
def Weq:MC:=.seq W3d (.cond (Qn 44) (.seq W3e .ret) (.seq Wek Wep))
def X8i:=[Qa (Qv 96) (Qd (Qn 0)),Qa (Qv 97) (Qd (Qn 1)),Qa (Qv 98) (Qd (Qn 3)),Qa (Qv 99) (Qe Q4 Qx (Qn 98) (Qo (Qp (Qq (Q1 (Qw #[32,32])))))),Qa (Qv 100) (Qh 33 [(Qn 96),(Qn 97),(Qn 99)])]
def Wer:MC:=.r0 X8i
def Wes:MC:=.seq (.seq W3b (.cond (Qn 24) W3c .skip)) (.seq (.blk 0 Weq) Wer)
def X8j:MC:=.seq W29 (.seq W3a Wes)
attribute [go_sem] Y19 Y2a Y2b Y2c Y2d Y2e X8d X8e X8f X8g X8h X8i
theorem Jgd:KK QP 62 f62 [] X8j [] 101:=by refine⟨func62,?_,?_,?_,?_⟩<;>kernel_rfl
theorem Y2f:Xaa QP 62=true:=by kernel_rfl
theorem Xou (h:GT QP gp [] pre R 101 X8j args):Tri QP gp 62 args pre R:=Jgd.t h
def Y2g:=[Qa (Qv 2) (Qd (Qo (Qp (Qq (Qs false)))))]
def W3f:MC:=.r0 Y2g
def Y2h:=[Qa (Qv 7) (Qd (Qn 0)),Qa (Qv 8) (MOp.rng (Qn 7))]
def W3g:MC:=.r0 Y2h
def Y2i:=[Qa (Qv 9) (MOp.nxt (Qn 8)),Qa (Qv 10) (Qi (Qn 9) 0)]
def W3h:MC:=.r0 Y2i
def Y2j:=[Qa (Qv 11) (Qi (Qn 9) 1),Qa (Qv 12) (Qi (Qn 9) 2),Qa (Qv 3) (Qd (Qn 11)),Qa (Qv 4) (Qd (Qn 12))]
def W3i:MC:=.r0 Y2j
def Y2k:=[Qa (Qv 14) (Qd (Qn 0)),Qa (Qv 15) (Qd (Qn 3)),Qa (Qv 16) (QL (Qn 14) (Qv (Qn 15)) none),Qa (Qv 17) (Qh 93 [(Qn 16)]),Qa (Qv 13) (Qd (Qn 17)),Qa (Qv 18) (Qi (Qn 13) 0),Qa (Qv 19) (Qi (Qn 13) 1),Qa (Qv 5) (Qd (Qn 18)),Qa (Qv 6) (Qd (Qn 19))]
def W3j:MC:=.r0 Y2k
def Y2l:=[Qa (Qv 20) (Qd (Qn 4)),Qa (Qv 21) (Qe Qt Qz (Qn 20) (Qo (Qp (Qq (Qr Go.IntKind.i32 65533))))),Qa (Qv 22) (Qd (Qn 21)),Qb 22 true (Qv 23),Qa (Qv 23) (Qd (Qn 6)),Qb 22 true (Qv 24),Qa (Qv 24) (Qe Qt Qz (Qn 23) (Qo (Qp (Qq (Qr Qu 1))))),Qa (Qv 25) (Qm (Qn 22) (Qn 24) (Qo (Qp (Qq (Qs false)))))]
def W3k:MC:=.r0 Y2l
def Y2m:=[Qa (Qv 2) (Qd (Qo (Qp (Qq (Qs false)))))]
def W3l:MC:=.r0 Y2m
def Wet:MC:=.seq W3i (.seq W3j (.seq W3k (.cond (Qn 25) (.seq W3l .ret) .skip)))
def X8k:=[Qa (Qv 2) (Qd (Qo (Qp (Qq (Qs true)))))]
def Weu:MC:=.r0 X8k
def Wev:MC:=.seq (.seq W3g (.blk 0 (.loop (.seq W3h (.seq (.cond (Qn 10) .skip (Q3 0)) (.blk 1 Wet)))))) (.seq Weu .ret)
def X8l:MC:=.seq W3f Wev
attribute [go_sem] Y2g Y2h Y2i Y2j Y2k Y2l Y2m X8k
theorem Jge:KK QP 63 f63 [] X8l [(Q0 2)] 26:=by refine⟨func63,?_,?_,?_,?_⟩<;>kernel_rfl
theorem W3m:Xaa QP 63=true:=by kernel_rfl
theorem W3n (h:GI QP gp [(Q0 2)] res 26 X8l args):Does QP gp 63 args res:=Jge.i W3m h
def Y2n:=[Qa (Qv 2) (Qd (Qo (Qp (Qq (Qr Qu 0))))),Qa (Qv 3) (Qd (Qo (Qp (Qq (Qr Qu 0)))))]
def W3o:MC:=.r0 Y2n
def Y2o:=[Qa (Qv 4) (Q5 [(Qr Qu 0),(Qr Qu 0)])]
def W3p:MC:=.r0 Y2o
def Y2p:=[Qa (Qv 5) (Qd (Qn 0)),Qa (Qv 6) (QM 176 (Qn 4)),Qa (Qv 7) (Qh 68 [(Qn 5),(Qn 6)])]
def W3q:MC:=.r0 Y2p
def Y2q:=[Qa (Qv 8) (Qg 0 (Qn 4)),Qa (Qv 9) (Qf 1 false (Qn 8)),Qa (Qv 10) (Qg 1 (Qn 4)),Qa (Qv 11) (Qf 1 false (Qn 10)),Qa (Qv 2) (Qd (Qn 9)),Qa (Qv 3) (Qd (Qn 11))]
def W3r:MC:=.reg true Y2q
def Y2r:=[Qa (Qv 2) (Qd (Qo (Qp (Qq (Qr Qu 0))))),Qa (Qv 3) (Qd (Qo (Qp (Qq (Qr Qu 0)))))]
def W3s:MC:=.r0 Y2r
def Wew:MC:=.seq W3p (.seq (.seq W3q (.cond (Qn 7) (.seq W3r .ret) .skip)) (.seq W3s .ret))
def X8m:MC:=.seq W3o Wew
attribute [go_sem] Y2n Y2o Y2p Y2q Y2r
theorem Jgf:KK QP 71 f71 [] X8m [(Q0 2),(Q0 3)] 12:=by refine⟨func71,?_,?_,?_,?_⟩<;>kernel_rfl
theorem W3t:Xaa QP 71=true:=by kernel_rfl
theorem W3u (h:GI QP gp [(Q0 2),(Q0 3)] res 12 X8m args):Does QP gp 71 args res:=Jgf.i W3t h
def Y2s:=[Qa (Qv 1) (Q2 (Qn 0)),Qa (Qv 2) (Q5 [D.nilI])]
def W3v:MC:=.r0 Y2s
def Y2t:=[Qa (Qv 6) (Qg 1 (Qn 1)),Qa (Qv 7) (Qf 1 false (Qn 6)),Qa (Qv 8) (Qk Qt (Qn 7)),Qa (Qv 9) (Qe Qt Q7 (Qn 8) (Qo (Qp (Qq (Qr Qu 200))))),Qa (Qv 5) (Qd (Qn 9))]
def W3w:MC:=.r0 Y2t
def Y2u:=[Qa (Qv 10) (Q9 [(Qr Qu 0),(Qr Qu 0)] [(0,(1,(Qo (Qp (Qq (Qr Qu 0)))))),(1,(1,(Qo (Qp (Qq (Qr Qu 71))))))]),Qa (Qv 11) (QM 175 (Qn 10)),Qa none (Ql 1 (Qn 2) (Qn 11))]
def W3x:MC:=.r0 Y2u
def Y2v:=[Qa (Qv 13) (Qf 2 true (Qn 1)),Qa (Qv 14) (Qg 0 (Qn 1)),Qa (Qv 15) (Qf 1 false (Qn 14)),Qa (Qv 16) (Qh 108 [(Qn 13),(Qn 15)]),Qa (Qv 17) (QC (Qn 16)),Qa (Qv 12) (Qd (Qn 17))]
def W3y:MC:=.r0 Y2v
def Y2w:=[Qa (Qv 18) (Q9 [(Qr Qu 0),(Qr Qu 0)] [(0,(1,(Qo (Qp (Qq (Qr Qu (-1))))))),(1,(1,(Qo (Qp (Qq (Qr Qu 70))))))]),Qa (Qv 19) (QM 175 (Qn 18)),Qa none (Ql 1 (Qn 2) (Qn 19))]
def W3z:MC:=.r0 Y2w
def Wex:MC:=.seq W3w (.cond (Qn 5) (.seq W3x .ret) (.seq W3y (.cond (Qn 12) (.seq W3z .ret) .skip)))
def X8n:=[Qa (Qv 20) (Qf 2 true (Qn 1)),Qa (Qv 21) (Qh 109 [(Qn 20)])]
def Wey:MC:=.r0 X8n
def X8o:=[Qa (Qv 3) (Qd (Qn 22))]
def Wez:MC:=.r0 X8o
def X8p:=[Qa (Qv 4) (Q5 [(Qr Qu 0),(Qr Qu 0),(Qr Qu 0),(Q1 (Qw #[])),(QA []),(QA []),(Qr Qu 0)]),Qa none (Ql 7 (Qn 4) (Qn 23))]
def We0:MC:=.r0 X8p
def X8q:=[Qa (Qv 24) (Qf 7 true (Qn 4)),Qa (Qv 25) (Qh 110 [(Qn 24)]),Qa (Qv 26) (QC (Qn 25))]
def We1:MC:=.r0 X8q
def X8r:=[Qa (Qv 27) (Qd (Qn 3)),Qa (Qv 28) (Q9 [(Qr Qu 0),(Qr Qu 0)] [(0,(1,(Qn 27))),(1,(1,(Qo (Qp (Qq (Qr Qu 70))))))]),Qa (Qv 29) (QM 175 (Qn 28)),Qa none (Ql 1 (Qn 2) (Qn 29))]
def We2:MC:=.r0 X8r
def We3:MC:=.rf (Qn 21) [22,23] (.seq Wez We0) (.blk 2 (.seq We1 (.cond (Qn 26) (.seq We2 .ret) .skip)))
def X8s:=[Qa none (Ql 1 (Qn 2) (Qo (Qp (Qq D.nilI))))]
def We4:MC:=.r0 X8s
def We5:MC:=.seq (.blk 0 Wex) (.seq (.seq Wey (.blk 1 We3)) (.seq We4 .ret))
def X8t:MC:=.seq W3v We5
attribute [go_sem] Y2s Y2t Y2u Y2v Y2w X8n X8o X8p X8q X8r X8s
theorem Jgg:KK QP 72 f72 [1] X8t [(QG 2 1 false)] 30:=by refine⟨func72,?_,?_,?_,?_⟩<;>kernel_rfl
theorem W30:Xaa QP 72=true:=by kernel_rfl
theorem W31 (h:GI QP gp [(QG 2 1 false)] res 30 X8t args):Does QP gp 72 args res:=Jgg.i W30 h
def Y2x:=[Qa (Qv 2) (Q2 (Qn 0)),Qa (Qv 4) (Q5 [(Qr Qu 0),(Qr Qu 0),(Qr Qu 0),(Q1 (Qw #[])),(QA []),(QA []),(Qr Qu 0)]),Qa (Qv 5) (Qd (Qo (Qp (Qq (Qr Qu 0)))))]
def W32:MC:=.r0 Y2x
def Y2y:=[Qa (Qv 6) (Qf 2 true (Qn 2)),Qa (Qv 7) (Qd (Qn 1)),Qa (Qv 8) (Qh 108 [(Qn 6),(Qn 7)]),Qa (Qv 9) (QC (Qn 8))]
def W33:MC:=.r0 Y2y
def Y2z:=[Qa (Qv 10) (Q9 [(Qr Qu 0),(Qr Qu 0),(Qr Qu 0),(Q1 (Qw #[])),(QA []),(QA []),(Qr Qu 0)] []),Qa none (Ql 7 (Qn 4) (Qn 10)),Qa (Qv 5) (Qd (Qo (Qp (Qq (Qr Qu 2)))))]
def W34:MC:=.r0 Y2z
def Y20:=[Qa (Qv 11) (Qg 1 (Qn 2)),Qa (Qv 12) (Qf 1 false (Qn 11)),Qa (Qv 13) (Qd (Qn 1)),Qa (Qv 14) (Qj 6 (Qn 12) (Qn 13)),Qa (Qv 15) (Qf 6 true (Qn 14)),Qa (Qv 16) (Qg 1 (Qn 2)),Qa (Qv 17) (Qf 1 false (Qn 16)),Qa (Qv 18) (Qk Qt (Qn 17)),Qa (Qv 19) (Q9 [(Qr Qu 0),(Qr Qu 0),(Qr Qu 0),(Q1 (Qw #[])),(QA []),(QA []),(Qr Qu 0)] [(0,(6,(Qn 15))),(6,(1,(Qn 18)))]),Qa none (Ql 7 (Qn 4) (Qn 19)),Qa (Qv 5) (Qd (Qo (Qp (Qq (Qr Qu 0)))))]
def W35:MC:=.reg true Y20
def X8u:MC:=.seq W32 (.seq (.seq W33 (.cond (Qn 9) (.seq W34 .ret) .skip)) (.seq W35 .ret))
attribute [go_sem] Y2x Y2y Y2z Y20
theorem Jgh:KK QP 74 f74 [2] X8u [(QG 4 7 true),(Q0 5)] 20:=by refine⟨func74,?_,?_,?_,?_⟩<;>kernel_rfl
theorem W36:Xaa QP 74=true:=by kernel_rfl
theorem W37 (h:GI QP gp [(QG 4 7 true),(Q0 5)] res 20 X8u args):Does QP gp 74 args res:=Jgh.i W36 h
def Y21:=[Qa (Qv 1) (Q2 (Qn 0)),Qa (Qv 2) (Qd (Qo (Qp A.nil)))]
def W38:MC:=.r0 Y21
def Y22:=[Qa (Qv 6) (Qg 0 (Qn 1)),Qa (Qv 7) (Qg 0 (Qn 6)),Qa (Qv 8) (Qf 1 false (Qn 7)),Qa (Qv 9) (Qe Qt Q8 (Qn 8) (Qo (Qp (Qq (Qr Qu 2))))),Qa (Qv 10) (Qd (Qn 9)),Qb 10 false (Qv 11),Qa (Qv 11) (Qf 7 true (Qn 1)),Qb 10 false (Qv 12),Qa (Qv 12) (Qh 113 [(Qn 11)]),Qb 10 false (Qv 13),Qa (Qv 13) (QC (Qn 12)),Qa (Qv 14) (Qm (Qn 10) (Qo (Qp (Qq (Qs true)))) (Qn 13))]
def W39:MC:=.r0 Y22
def Y23:=[Qa (Qv 2) (Qd (Qo (Qp A.nil)))]
def W4a:MC:=.r0 Y23
def Y24:=[Qa (Qv 3) (Qd (Qo (Qp A.nil)))]
def W4b:MC:=.r0 Y24
def Y25:=[Qa (Qv 15) (Qg 0 (Qn 1)),Qa (Qv 16) (Qg 4 (Qn 15)),Qa (Qv 17) (Qf 1 false (Qn 16)),Qa (Qv 18) (Qk Qt (Qn 17)),Qa (Qv 19) (Qd (Qo (Qp (Qq (Qr Qu 0)))))]
def W4c:MC:=.r0 Y25
def X8v:=[Qa (Qv 20) (Qe Qt Qy (Qn 19) (Qn 18))]
def We6:MC:=.r0 X8v
def X8w:=[Qa (Qv 21) (Qd (Qn 19)),Qa (Qv 22) (Qj 3 (Qn 17) (Qn 19)),Qa (Qv 23) (Qf 3 true (Qn 22)),Qa (Qv 5) (Q5 [(Qr Qu 0),(Qr Qu 0),(Q1 (Qw #[]))]),Qa (Qv 4) (Qd (Qn 21)),Qa none (Ql 3 (Qn 5) (Qn 23))]
def We7:MC:=.r0 X8w
def X8x:=[Qa (Qv 24) (Qd (Qn 3)),Qa (Qv 25) (Qf 3 true (Qn 5)),Qa (Qv 26) (Qg 0 (Qn 1)),Qa (Qv 27) (Qg 5 (Qn 26)),Qa (Qv 28) (Qf 1 false (Qn 27)),Qa (Qv 29) (Qd (Qn 4)),Qa (Qv 30) (Qj 1 (Qn 28) (Qn 29)),Qa (Qv 31) (Qf 1 false (Qn 30)),Qa (Qv 32) (Q9 [(Qr Qu 0),(Qr Qu 0),(Q1 (Qw #[])),(Qr Qu 0)] [(0,(3,(Qn 25))),(3,(1,(Qn 31)))]),Qa (Qv 33) (Q6 4 [(Qr Qu 0),(Qr Qu 0),(Q1 (Qw #[])),(Qr Qu 0)] 1 [(0,(Qn 32))]),Qa (Qv 34) (QE 131 4 40 (Qn 24) (Qn 33)),Qa (Qv 3) (Qd (Qn 34))]
def We8:MC:=.reg true X8x
def X8y:=[Qa (Qv 35) (Qe Qt Qx (Qn 19) (Qo (Qp (Qq (Qr Qu 1))))),Qa (Qv 19) (Qd (Qn 35))]
def We9:MC:=.r0 X8y
def Wfa:MC:=.seq We6 (.seq (.cond (Qn 20) .skip (Q3 0)) (.seq (.blk 1 (.seq We7 We8)) We9))
def X8z:=[Qa (Qv 36) (Qd (Qn 3)),Qa (Qv 37) (Qh 114 [(Qn 36),(Qo (Qp (Qq (QX (Go.Fn.func 115) []))))])]
def Wfb:MC:=.r0 X8z
def X80:=[Qa (Qv 38) (Qd (Qn 3)),Qa (Qv 2) (Qd (Qn 38))]
def Wfc:MC:=.r0 X80
def Wfd:MC:=.seq (.seq W4c (.blk 0 (.loop Wfa))) (.seq Wfb (.seq Wfc .ret))
def Wfe:MC:=.seq (.seq W39 (.cond (Qn 14) (.seq W4a .ret) .skip)) (.seq W4b Wfd)
def X81:MC:=.seq W38 Wfe
attribute [go_sem] Y21 Y22 Y23 Y24 Y25 X8v X8w X8x X8y X8z X80
theorem Jgi:KK QP 75 f75 [1] X81 [(Q0 2)] 39:=by refine⟨func75,?_,?_,?_,?_⟩<;>kernel_rfl
theorem W4d:Xaa QP 75=true:=by kernel_rfl
theorem W4e (h:GI QP gp [(Q0 2)] res 39 X81 args):Does QP gp 75 args res:=Jgi.i W4d h
def Xlm:=[Qa (Qv 2) (Qd (Qo (Qp A.nil)))]
def W4f:MC:=.r0 Xlm
def Xln:=[Qa (Qv 3) (Qd (Qn 0)),Qa (Qv 4) (MOp.nilq NK.sl false (Qn 3))]
def W4g:MC:=.r0 Xln
def Xne:=[Qa (Qv 2) (Qd (Qo (Qp A.nil)))]
def W4h:MC:=.r0 Xne
def Xnf:=[Qa (Qv 5) (QV 1 [(Qr Qu 0)] 0 []),Qa (Qv 6) (Qd (Qn 0)),Qa (Qv 7) (QE 3 1 8 (Qn 5) (Qn 6)),Qa (Qv 2) (Qd (Qn 7))]
def W4i:MC:=.r0 Xnf
def X82:MC:=.seq W4f (.seq (.seq W4g (.cond (Qn 4) (.seq W4h .ret) .skip)) (.seq W4i .ret))
theorem Jgj:KK QP 76 f76 [5] X82 [(Q0 2)] 8:=by refine⟨func76,?_,?_,?_,?_⟩<;>kernel_rfl
theorem W4j:Xaa QP 76=true:=by kernel_rfl
theorem W4k (h:GI QP gp [(Q0 2)] res 8 X82 args):Does QP gp 76 args res:=Jgj.i W4j h
def Y26:=[Qa (Qv 7) (Qf 1 false (Qn 1)),Qa (Qv 8) (Qh 83 [(Qn 7),(Qo (Qp (Qq (Qr Qu 0))))]),Qa (Qv 3) (Qd (Qn 8))]
def W4l:MC:=.r0 Y26
def Y27:=[Qa (Qv 10) (Qd (Qn 3)),Qa (Qv 11) (QZ 141 true (Qp (Qq (Q1 (Qw #[])))) (Qn 10)),Qa (Qv 9) (Qd (Qn 11)),Qa (Qv 12) (Qi (Qn 9) 0),Qa (Qv 13) (Qi (Qn 9) 1),Qa (Qv 4) (Qd (Qn 12)),Qa (Qv 5) (Qd (Qn 13))]
def W4m:MC:=.r0 Y27
def Y28:=[Qa (Qv 14) (Qd (Qn 5))]
def W4n:MC:=.r0 Y28
def Y29:=[Qa (Qv 15) (Qd (Qn 0)),Qa (Qv 16) (Qd (Qn 4)),Qa (Qv 17) (Q6 1 [(Q1 (Qw #[]))] 1 [(0,(Qn 16))]),Qa (Qv 18) (Qh 84 [(Qo (Qp (Qq (Qr Qu 0)))),(Qo (Qp (Qq (Qr Qu (-1))))),(Qn 17)]),Qa (Qv 19) (QF (Qn 15) [(Qn 18)])]
def W4o:MC:=.r0 Y29
def X83:=[Qa (Qv 20) (Qd (Qn 3)),Qa (Qv 21) (QZ 145 false (V.agg [(Qq (Qr Qu 0)),(Qq (Q1 (Qw #[])))]) (Qn 20)),Qa (Qv 6) (Q5 [(Qr Qu 0),(Q1 (Qw #[]))]),Qa none (Ql 2 (Qn 6) (Qn 21))]
def Wff:MC:=.r0 X83
def X84:=[Qa (Qv 22) (Qg 1 (Qn 6)),Qa (Qv 23) (Qf 1 false (Qn 22)),Qa (Qv 24) (Qe Q4 Q8 (Qn 23) (Qo (Qp (Qq (Q1 (Qw #[])))))),Qa (Qv 25) (Qd (Qn 24)),Qb 25 true (Qv 26),Qa (Qv 26) (Qd (Qn 0)),Qb 25 true (Qv 27),Qa (Qv 27) (Qg 1 (Qn 6)),Qb 25 true (Qv 28),Qa (Qv 28) (Qf 1 false (Qn 27)),Qb 25 true (Qv 29),Qa (Qv 29) (Qe Q4 Qx (Qo (Qp (Qq (Q1 (Qw #[38]))))) (Qn 28)),Qb 25 true (Qv 30),Qa (Qv 30) (Q6 1 [(Q1 (Qw #[]))] 1 [(0,(Qn 29))]),Qb 25 true (Qv 31),Qa (Qv 31) (Qh 84 [(Qo (Qp (Qq (Qr Qu 0)))),(Qo (Qp (Qq (Qr Qu 0)))),(Qn 30)]),Qb 25 true (Qv 32),Qa (Qv 32) (QF (Qn 26) [(Qn 31)]),Qb 25 true (Qv 33),Qa (Qv 33) (QC (Qn 32)),Qa (Qv 34) (Qm (Qn 25) (Qn 33) (Qo (Qp (Qq (Qs false)))))]
def Wfg:MC:=.r0 X84
def X85:=[Qa (Qv 35) (Qf 1 false (Qn 1)),Qa (Qv 36) (Qd (Qn 0)),Qa (Qv 37) (Qh 85 [(Qn 35),(Qn 36),(Qo (Qp (Qq (Qr Qu 0)))),(Qo (Qp (Qq (Qr Qu 0))))])]
def Wfh:MC:=.r0 X85
def Wfi:MC:=.seq (.seq W4m (.seq W4n (.cond (Qn 14) (.seq W4o .ret) .skip))) (.seq Wff (.seq (.seq Wfg (.cond (Qn 34) .ret .skip)) Wfh))
def X86:MC:=.seq W4l Wfi
attribute [go_sem] Y26 Y27 Y28 Y29 X83 X84 X85
theorem Jgk:KK QP 82 f82 [] X86 [] 38:=by refine⟨func82,?_,?_,?_,?_⟩<;>kernel_rfl
theorem W4p:Xaa QP 82=true:=by kernel_rfl
theorem Xtc (h:GT QP gp [] pre R 38 X86 args):Tri QP gp 82 args pre R:=Jgk.t h
def Y3a:=[Qa (Qv 4) (Qd (Qo (Qp (Qq D.nilI))))]
def W4q:MC:=.r0 Y3a
def Y3b:=[Qa (Qv 8) (Qd (Qn 0)),Qa (Qv 9) (QB (Qn 8)),Qa (Qv 10) (Qg 0 (Qn 9)),Qa (Qv 11) (Qg 1 (Qn 10)),Qa (Qv 12) (Qf 1 false (Qn 11)),Qa (Qv 13) (Qd (Qn 1)),Qa (Qv 14) (Qj 6 (Qn 12) (Qn 13)),Qa (Qv 15) (Qg 5 (Qn 14)),Qa (Qv 16) (Qf 1 false (Qn 15)),Qa (Qv 17) (Qk Qt (Qn 16)),Qa (Qv 18) (Qe Qt Qz (Qn 17) (Qo (Qp (Qq (Qr Qu 0)))))]
def W4r:MC:=.r0 Y3b
def Y3c:=[Qa (Qv 19) QY,Qa (Qv 20) (Qd (Qn 0)),Qa (Qv 21) (QW (Go.Fn.func 120) (Qn 20)),Qa none (QN false [Qt] (Qn 19) (Qo (Qp (Qq (Qr Qu 0)))) (Qn 21)),Qa (Qv 22) (Qd (Qn 0)),Qa (Qv 23) (QW (Go.Fn.func 121) (Qn 22)),Qa none (QN false [Qt] (Qn 19) (Qo (Qp (Qq (Qr Qu 1)))) (Qn 23)),Qa (Qv 24) (Qd (Qn 0)),Qa (Qv 25) (QW (Go.Fn.func 122) (Qn 24)),Qa none (QN false [Qt] (Qn 19) (Qo (Qp (Qq (Qr Qu 2)))) (Qn 25)),Qa (Qv 26) (Qd (Qn 19)),Qa (Qv 5) (Qd (Qn 26))]
def W4s:MC:=.r0 Y3c
def Y3d:=[Qa (Qv 27) (Qd (Qn 5)),Qa (Qv 28) (Qd (Qn 0)),Qa (Qv 29) (QB (Qn 28)),Qa (Qv 30) (Qg 0 (Qn 29)),Qa (Qv 31) (Qg 1 (Qn 30)),Qa (Qv 32) (Qf 1 false (Qn 31)),Qa (Qv 33) (Qd (Qn 1)),Qa (Qv 34) (Qj 6 (Qn 32) (Qn 33)),Qa (Qv 35) (Qg 0 (Qn 34)),Qa (Qv 36) (Qf 1 false (Qn 35)),Qa (Qv 37) (MOp.lkp false (Qp (Qq QJ)) false [Qt] (Qn 27) (Qn 36)),Qa (Qv 38) (Qd (Qn 1)),Qa (Qv 39) (QF (Qn 37) [(Qn 38)]),Qa (Qv 40) (QM 141 (Qn 39)),Qa (Qv 4) (Qd (Qn 40))]
def W4t:MC:=.r0 Y3d
def X87:=[Qa (Qv 6) (Qd (Qo (Qp (Qq (Q1 (Qw #[]))))))]
def Wfj:MC:=.r0 X87
def X88:=[Qa (Qv 41) (Qd (Qn 0)),Qa (Qv 42) (QB (Qn 41)),Qa (Qv 43) (Qg 2 (Qn 42)),Qa (Qv 44) (Qf 1 false (Qn 43)),Qa (Qv 45) (Qd (Qn 1)),Qa (Qv 46) (Qj 1 (Qn 44) (Qn 45)),Qa (Qv 47) (Qf 1 false (Qn 46)),Qa (Qv 7) (Qd (Qn 47))]
def Wfk:MC:=.r0 X88
def X89:=[Qa (Qv 48) (Qd (Qn 7)),Qa (Qv 49) (Qe Qt Q7 (Qn 48) (Qo (Qp (Qq (Qr Qu 0)))))]
def Wfl:MC:=.r0 X89
def X9a:=[Qa (Qv 50) (Qd (Qn 7)),Qa (Qv 51) (Qh 65 [(Qn 50)]),Qa (Qv 52) (Qe Q4 Qx (Qo (Qp (Qq (Q1 (Qw #[97]))))) (Qn 51)),Qa (Qv 6) (Qd (Qn 52))]
def Wfm:MC:=.r0 X9a
def X9b:=[Qa (Qv 53) (Qd (Qn 0)),Qa (Qv 54) (QB (Qn 53)),Qa (Qv 55) (Qg 3 (Qn 54)),Qa (Qv 56) (Qf 1 false (Qn 55)),Qa (Qv 57) (Qd (Qn 1)),Qa (Qv 58) (MOp.lkp false (Qp (Qq (Qs false))) false [Qt] (Qn 56) (Qn 57))]
def Wfn:MC:=.r0 X9b
def X9c:=[Qa (Qv 59) (Qd (Qn 6)),Qa (Qv 60) (Qe Q4 Qx (Qo (Qp (Qq (Q1 (Qw #[42]))))) (Qn 59)),Qa (Qv 61) (QM 141 (Qn 60)),Qa (Qv 4) (Qd (Qn 61))]
def Wfo:MC:=.r0 X9c
def X9d:=[Qa (Qv 62) (Qd (Qn 0)),Qa (Qv 63) (QB (Qn 62)),Qa (Qv 64) (Qg 3 (Qn 63)),Qa (Qv 65) (Qf 1 false (Qn 64)),Qa (Qv 66) (Qd (Qn 1)),Qa none (QN false [Qt] (Qn 65) (Qn 66) (Qo (Qp (Qq (Qs true)))))]
def Wfp:MC:=.r0 X9d
def X9e:=[Qa (Qv 67) (Qd (Qn 1)),Qa (Qv 68) (Qd (Qn 6)),Qa (Qv 69) (Q9 [(Qr Qu 0),(Q1 (Qw #[]))] [(0,(1,(Qn 67))),(1,(1,(Qn 68)))]),Qa (Qv 70) (QM 145 (Qn 69)),Qa (Qv 4) (Qd (Qn 70))]
def Wfq:MC:=.r0 X9e
def Wfr:MC:=.seq (.seq Wfn (.cond (Qn 58) (.seq Wfo .ret) .skip)) (.seq Wfp (.seq Wfq .ret))
def Wfs:MC:=.seq (.seq Wfk (.seq Wfl (.cond (Qn 49) Wfm .skip))) Wfr
def Wft:MC:=.seq (.seq W4r (.cond (Qn 18) (.seq W4s (.seq W4t .ret)) .skip)) (.seq Wfj Wfs)
def X9f:MC:=.seq W4q Wft
attribute [go_sem] Y3a Y3b Y3c Y3d X87 X88 X89 X9a X9b X9c X9d X9e
theorem Jgl:KK QP 83 f83 [] X9f [(Q0 4)] 71:=by refine⟨func83,?_,?_,?_,?_⟩<;>kernel_rfl
theorem Xq3:Xaa QP 83=true:=by kernel_rfl
theorem Xov (h:GT QP gp [(Q0 4)] pre R 71 X9f args):Tri QP gp 83 args pre R:=Jgl.t h
def Y3e:=[Qa (Qv 6) (Q5 [(Q1 (Qw #[])),(Qr Qu 0),(Qr Qu 0)])]
def W4u:MC:=.r0 Y3e
def Y3f:=[Qa (Qv 7) (Qd (Qn 0)),Qa (Qv 8) (Qh 123 [(Qn 7)]),Qa (Qv 9) (Qd (Qn 2)),Qa (Qv 10) (Qh 124 [(Qn 9),(Qo (Qp (Qq (Q1 (Qw #[])))))]),Qa (Qv 11) (Qe Q4 Qx (Qn 8) (Qn 10)),Qa (Qv 12) (Qd (Qn 0)),Qa (Qv 13) (Qd (Qn 1)),Qa (Qv 14) (Q9 [(Q1 (Qw #[])),(Qr Qu 0),(Qr Qu 0)] [(0,(1,(Qn 11))),(1,(1,(Qn 12))),(2,(1,(Qn 13)))]),Qa none (Ql 3 (Qn 6) (Qn 14))]
def W4v:MC:=.r0 Y3f
def Y3g:MC:=.seq W4u (.seq W4v .ret)
attribute [go_sem] Y3e Y3f
theorem Jgm:KK QP 84 f84 [] Y3g [(QG 6 3 true)] 15:=by refine⟨func84,?_,?_,?_,?_⟩<;>kernel_rfl
theorem W4w:Xaa QP 84=true:=by kernel_rfl
theorem W4x (h:GI QP gp [(QG 6 3 true)] res 15 Y3g args):Does QP gp 84 args res:=Jgm.i W4w h
def Y3h:=[Qa (Qv 8) (Qd (Qo (Qp (Qq (Qs false)))))]
def W4y:MC:=.r0 Y3h
def Y3i:=[Qa (Qv 18) (Qd (Qn 0)),Qa (Qv 19) (Qd (Qn 2)),Qa (Qv 20) (Qh 125 [(Qn 18),(Qn 19)]),Qa (Qv 9) (Qd (Qn 20))]
def W4z:MC:=.r0 Y3i
def Y3j:=[Qa (Qv 22) (Qd (Qn 0)),Qa (Qv 23) (QB (Qn 22)),Qa (Qv 24) (Qg 0 (Qn 23)),Qa (Qv 25) (Qf 2 true (Qn 24)),Qa (Qv 26) (Qd (Qn 2)),Qa (Qv 27) (Qh 51 [(Qn 25),(Qn 26)]),Qa (Qv 21) (Qd (Qn 27)),Qa (Qv 28) (Qi (Qn 21) 0),Qa (Qv 29) (Qi (Qn 21) 1),Qa (Qv 10) (Qd (Qn 28)),Qa (Qv 11) (Qd (Qn 29))]
def W40:MC:=.r0 Y3j
def Y3k:=[Qa (Qv 30) (Qd (Qn 10)),Qa (Qv 31) (Qk Qt (Qn 30)),Qa (Qv 32) (Qd (Qo (Qp (Qq (Qr Qu 0)))))]
def W41:MC:=.r0 Y3k
def Y3l:=[Qa (Qv 33) (Qe Qt Qy (Qn 32) (Qn 31))]
def W42:MC:=.r0 Y3l
def Y3m:=[Qa (Qv 34) (Qd (Qn 32)),Qa (Qv 35) (Qj 1 (Qn 30) (Qn 32)),Qa (Qv 36) (Qf 1 false (Qn 35)),Qa (Qv 12) (Qd (Qn 34)),Qa (Qv 13) (Qd (Qn 36))]
def W43:MC:=.r0 Y3m
def Y3n:=[Qa (Qv 37) (Qd (Qn 0)),Qa (Qv 38) (Qd (Qn 13)),Qa (Qv 39) (Qh 83 [(Qn 37),(Qn 38)]),Qa (Qv 14) (Qd (Qn 39))]
def W44:MC:=.r0 Y3n
def X9g:=[Qa (Qv 15) (Qd (Qo (Qp (Qq (Qr Qu (-1))))))]
def Wfu:MC:=.r0 X9g
def X9h:=[Qa (Qv 41) (Qd (Qn 14)),Qa (Qv 42) (QZ 145 true (V.agg [(Qq (Qr Qu 0)),(Qq (Q1 (Qw #[])))]) (Qn 41)),Qa (Qv 40) (Qd (Qn 42)),Qa (Qv 43) (Qi (Qn 40) 0),Qa (Qv 44) (Qi (Qn 40) 1),Qa (Qv 16) (Q5 [(Qr Qu 0),(Q1 (Qw #[]))]),Qa none (Ql 2 (Qn 16) (Qn 43)),Qa (Qv 17) (Qd (Qn 44))]
def Wfv:MC:=.r0 X9h
def X9i:=[Qa (Qv 45) (Qd (Qn 17))]
def Wfw:MC:=.r0 X9i
def X9j:=[Qa (Qv 46) (Qg 0 (Qn 16)),Qa (Qv 47) (Qf 1 false (Qn 46)),Qa (Qv 15) (Qd (Qn 47))]
def Wfx:MC:=.r0 X9j
def X9k:=[Qa (Qv 48) (Qd (Qn 1)),Qa (Qv 49) (Qd (Qn 3)),Qa (Qv 50) (Qd (Qn 15)),Qa (Qv 51) (Qd (Qn 9)),Qa (Qv 52) (Qd (Qn 12)),Qa (Qv 53) (Qj 1 (Qn 51) (Qn 52)),Qa (Qv 54) (Qf 1 false (Qn 53)),Qa (Qv 55) (Qd (Qn 14)),Qa (Qv 56) (MOp.inv "sigillary/emit.text" (Qn 55)),Qa (Qv 57) (Q6 1 [(Q1 (Qw #[]))] 2 [(0,(Qn 54)),(1,(Qn 56))]),Qc (Qv 58) (Qh 84 [(Qn 49),(Qn 50),(Qn 57)]),Qc (Qv 59) (QF (Qn 48) [(Qn 58)]),Qa (Qv 60) (QC (Qn 59))]
def Wfy:MC:=.reg true X9k
def X9l:=[Qa (Qv 8) (Qd (Qo (Qp (Qq (Qs false)))))]
def Wfz:MC:=.r0 X9l
def X9m:=[Qa (Qv 61) (Qd (Qn 17)),Qa (Qv 62) (Qd (Qn 61)),Qb 62 true (Qv 63),Qa (Qv 63) (Qd (Qn 0)),Qb 62 true (Qv 64),Qa (Qv 64) (Qd (Qn 1)),Qb 62 true (Qv 65),Qa (Qv 65) (Qd (Qn 15)),Qb 62 true (Qv 66),Qa (Qv 66) (Qd (Qn 3)),Qb 62 true (Qv 67),Qa (Qv 67) (Qe Qt Qx (Qn 66) (Qo (Qp (Qq (Qr Qu 2))))),Qb 62 true (Qv 68),Qa (Qv 68) (Qh 85 [(Qn 63),(Qn 64),(Qn 65),(Qn 67)]),Qb 62 true (Qv 69),Qa (Qv 69) (QC (Qn 68)),Qa (Qv 70) (Qm (Qn 62) (Qn 69) (Qo (Qp (Qq (Qs false)))))]
def Wf0:MC:=.r0 X9m
def X9n:=[Qa (Qv 8) (Qd (Qo (Qp (Qq (Qs false)))))]
def Wf1:MC:=.r0 X9n
def Wf2:MC:=.seq (.seq Wfy (.cond (Qn 60) (.seq Wfz .ret) .skip)) (.seq Wf0 (.cond (Qn 70) (.seq Wf1 .ret) .skip))
def Wf3:MC:=.seq Wfv (.seq (.seq Wfw (.cond (Qn 45) Wfx .skip)) Wf2)
def Wf4:MC:=.seq W43 (.seq W44 (.seq Wfu Wf3))
def X9o:=[Qa (Qv 71) (Qe Qt Qx (Qn 32) (Qo (Qp (Qq (Qr Qu 1))))),Qa (Qv 32) (Qd (Qn 71))]
def Wf5:MC:=.r0 X9o
def Wf6:MC:=.seq W41 (.blk 0 (.loop (.seq W42 (.seq (.cond (Qn 33) .skip (Q3 0)) (.seq (.blk 1 Wf4) Wf5)))))
def X9p:=[Qa (Qv 8) (Qd (Qo (Qp (Qq (Qs true)))))]
def Wf7:MC:=.r0 X9p
def Wf8:MC:=.seq W4z (.seq W40 (.seq Wf6 (.seq Wf7 .ret)))
def X9q:MC:=.seq W4y Wf8
attribute [go_sem] Y3h Y3i Y3j Y3k Y3l Y3m Y3n X9g X9h X9i X9j X9k X9l X9m X9n X9o X9p
theorem Jgn:KK QP 85 f85 [] X9q [(Q0 8)] 72:=by refine⟨func85,?_,?_,?_,?_⟩<;>kernel_rfl
theorem Xve:Xaa QP 85=true:=by kernel_rfl
theorem Wf9 (h:GT QP gp [(Q0 8)] pre R 72 X9q args):Tri QP gp 85 args pre R:=Jgn.t h
-- f86: no body
def Y3o:=[Qa (Qv 2) (Q2 (Qn 0)),Qa (Qv 3) (Q2 (Qn 1)),Qa (Qv 4) (Qd (Qo (Qp (Qq (Qs false)))))]
def W45:MC:=.r0 Y3o
def Y3p:=[Qa (Qv 8) (Qg 0 (Qn 2)),Qa (Qv 9) (Qf 1 false (Qn 8)),Qa (Qv 10) (Qg 0 (Qn 3)),Qa (Qv 11) (Qf 1 false (Qn 10)),Qa (Qv 12) (Qe Qt Q8 (Qn 9) (Qn 11)),Qa (Qv 13) (Qd (Qn 12)),Qb 13 false (Qv 14),Qa (Qv 14) (Qg 1 (Qn 2)),Qb 13 false (Qv 15),Qa (Qv 15) (Qf 1 false (Qn 14)),Qb 13 false (Qv 16),Qa (Qv 16) (Qk Qt (Qn 15)),Qb 13 false (Qv 17),Qa (Qv 17) (Qg 1 (Qn 3)),Qb 13 false (Qv 18),Qa (Qv 18) (Qf 1 false (Qn 17)),Qb 13 false (Qv 19),Qa (Qv 19) (Qk Qt (Qn 18)),Qb 13 false (Qv 20),Qa (Qv 20) (Qe Qt Q8 (Qn 16) (Qn 19)),Qa (Qv 21) (Qm (Qn 13) (Qo (Qp (Qq (Qs true)))) (Qn 20))]
def W46:MC:=.r0 Y3p
def Y3q:=[Qa (Qv 4) (Qd (Qo (Qp (Qq (Qs false)))))]
def W47:MC:=.r0 Y3q
def Y3r:=[Qa (Qv 5) (Qd (Qo (Qp (Qq (Qr Qu 0)))))]
def W48:MC:=.r0 Y3r
def Y3s:=[Qa (Qv 22) (Qd (Qn 5)),Qa (Qv 23) (Qg 1 (Qn 2)),Qa (Qv 24) (Qf 1 false (Qn 23)),Qa (Qv 25) (Qk Qt (Qn 24)),Qa (Qv 26) (Qe Qt Qy (Qn 22) (Qn 25))]
def W49:MC:=.r0 Y3s
def X9r:=[Qa (Qv 29) (Qg 1 (Qn 2)),Qa (Qv 30) (Qf 1 false (Qn 29)),Qa (Qv 31) (Qd (Qn 5)),Qa (Qv 32) (Qj 6 (Qn 30) (Qn 31)),Qa (Qv 33) (Qf 6 true (Qn 32)),Qa (Qv 6) (Q5 [(Qr Qu 0),(Qr Qu 0),(Qr Qu 0),(Q1 (Qw #[])),(QA []),(QA [])]),Qa none (Ql 6 (Qn 6) (Qn 33))]
def Wga:MC:=.r0 X9r
def X9s:=[Qa (Qv 34) (Qg 1 (Qn 3)),Qa (Qv 35) (Qf 1 false (Qn 34)),Qa (Qv 36) (Qd (Qn 5)),Qa (Qv 37) (Qj 6 (Qn 35) (Qn 36)),Qa (Qv 38) (Qf 6 true (Qn 37)),Qa (Qv 7) (Q5 [(Qr Qu 0),(Qr Qu 0),(Qr Qu 0),(Q1 (Qw #[])),(QA []),(QA [])]),Qa none (Ql 6 (Qn 7) (Qn 38))]
def Wgb:MC:=.r0 X9s
def X9t:=[Qa (Qv 39) (Qg 0 (Qn 6)),Qa (Qv 40) (Qf 1 false (Qn 39)),Qa (Qv 41) (Qg 0 (Qn 7)),Qa (Qv 42) (Qf 1 false (Qn 41)),Qa (Qv 43) (Qe Qt Q8 (Qn 40) (Qn 42)),Qa (Qv 44) (Qd (Qn 43)),Qb 44 false (Qv 45),Qa (Qv 45) (Qg 1 (Qn 6)),Qb 44 false (Qv 46),Qa (Qv 46) (Qf 3 true (Qn 45)),Qb 44 false (Qv 47),Qa (Qv 47) (Qg 1 (Qn 7)),Qb 44 false (Qv 48),Qa (Qv 48) (Qf 3 true (Qn 47)),Qb 44 false (Qv 49),Qa (Qv 49) (QH true [Qt,Qt,Q4] (Qn 46) (Qn 48)),Qa (Qv 50) (Qm (Qn 44) (Qo (Qp (Qq (Qs true)))) (Qn 49)),Qa (Qv 51) (Qd (Qn 50)),Qb 51 false (Qv 52),Qa (Qv 52) (Qg 4 (Qn 6)),Qb 51 false (Qv 53),Qa (Qv 53) (Qf 1 false (Qn 52)),Qb 51 false (Qv 54),Qa (Qv 54) (Qg 4 (Qn 7)),Qb 51 false (Qv 55),Qa (Qv 55) (Qf 1 false (Qn 54)),Qb 51 false (Qv 56),Qa (Qv 56) (Qh 129 [(Qn 53),(Qn 55)]),Qb 51 false (Qv 57),Qa (Qv 57) (QC (Qn 56)),Qa (Qv 58) (Qm (Qn 51) (Qo (Qp (Qq (Qs true)))) (Qn 57)),Qa (Qv 59) (Qd (Qn 58)),Qb 59 false (Qv 60),Qa (Qv 60) (Qg 5 (Qn 6)),Qb 59 false (Qv 61),Qa (Qv 61) (Qf 1 false (Qn 60)),Qb 59 false (Qv 62),Qa (Qv 62) (Qg 5 (Qn 7)),Qb 59 false (Qv 63),Qa (Qv 63) (Qf 1 false (Qn 62)),Qb 59 false (Qv 64),Qa (Qv 64) (Qh 130 [(Qn 61),(Qn 63)]),Qb 59 false (Qv 65),Qa (Qv 65) (QC (Qn 64)),Qa (Qv 66) (Qm (Qn 59) (Qo (Qp (Qq (Qs true)))) (Qn 65))]
def Wgc:MC:=.r0 X9t
def X9u:=[Qa (Qv 4) (Qd (Qo (Qp (Qq (Qs false)))))]
def Wgd:MC:=.r0 X9u
def Wge:MC:=.seq Wga (.seq Wgb (.seq Wgc (.cond (Qn 66) (.seq Wgd .ret) .skip)))
def X9v:=[Qa (Qv 27) (Qd (Qn 5)),Qa (Qv 28) (Qe Qt Qx (Qn 27) (Qo (Qp (Qq (Qr Qu 1))))),Qa (Qv 5) (Qd (Qn 28))]
def Wgf:MC:=.r0 X9v
def Wgg:MC:=.seq W48 (.blk 0 (.loop (.seq (.seq W49 (.cond (Qn 26) .skip (Q3 0))) (.seq (.blk 1 Wge) Wgf))))
def X9w:=[Qa (Qv 4) (Qd (Qo (Qp (Qq (Qs true)))))]
def Wgh:MC:=.r0 X9w
def Wgi:MC:=.seq (.seq W46 (.cond (Qn 21) (.seq W47 .ret) .skip)) (.seq Wgg (.seq Wgh .ret))
def X9x:MC:=.seq W45 Wgi
attribute [go_sem] Y3o Y3p Y3q Y3r Y3s X9r X9s X9t X9u X9v X9w
theorem Jgo:KK QP 88 f88 [2,3] X9x [(Q0 4)] 67:=by refine⟨func88,?_,?_,?_,?_⟩<;>kernel_rfl
theorem W5a:Xaa QP 88=true:=by kernel_rfl
theorem W5b (h:GI QP gp [(Q0 4)] res 67 X9x args):Does QP gp 88 args res:=Jgo.i W5a h
def Y3t:=[Qa (Qv 2) (Qd (Qo (Qp (Qq (Q1 (Qw #[]))))))]
def W5c:MC:=.r0 Y3t
def Y3u:=[Qa (Qv 3) (Qd (Qn 0)),Qa (Qv 4) (Qe Qt Qy (Qn 3) (Qo (Qp (Qq (Qr Qu 0)))))]
def W5d:MC:=.r0 Y3u
def Y3v:=[Qa (Qv 5) (Qd (Qn 0)),Qa (Qv 6) (Qe Qt QI (Qo (Qp (Qq (Qr Qu 0)))) (Qn 5)),Qa (Qv 7) (Qh 90 [(Qn 6)]),Qa (Qv 8) (Qe Q4 Qx (Qo (Qp (Qq (Q1 (Qw #[45]))))) (Qn 7)),Qa (Qv 2) (Qd (Qn 8))]
def W5e:MC:=.r0 Y3v
def Y3w:=[Qa (Qv 9) (Qd (Qn 0)),Qa (Qv 10) (Qe Qt Qy (Qn 9) (Qo (Qp (Qq (Qr Qu 10)))))]
def W5f:MC:=.r0 Y3w
def Y3x:=[Qa (Qv 11) (Qd (Qn 0)),Qa (Qv 12) (Qd (Qn 0)),Qa (Qv 13) (Qe Qt Qx (Qn 12) (Qo (Qp (Qq (Qr Qu 1))))),Qa (Qv 14) (QL (Qo (Qp (Qq (Q1 (Qw #[48,49,50,51,52,53,54,55,56,57]))))) (Qv (Qn 11)) (Qv (Qn 13))),Qa (Qv 2) (Qd (Qn 14))]
def W5g:MC:=.r0 Y3x
def X9y:=[Qa (Qv 15) (Qd (Qn 0)),Qa (Qv 16) (Qe Qt QU (Qn 15) (Qo (Qp (Qq (Qr Qu 10))))),Qc (Qv 17) (Qh 90 [(Qn 16)]),Qa (Qv 18) (Qd (Qn 0)),Qa (Qv 19) (Qe Qt QK (Qn 18) (Qo (Qp (Qq (Qr Qu 10))))),Qa (Qv 20) (Qd (Qn 0)),Qa (Qv 21) (Qe Qt QK (Qn 20) (Qo (Qp (Qq (Qr Qu 10))))),Qa (Qv 22) (Qe Qt Qx (Qn 21) (Qo (Qp (Qq (Qr Qu 1))))),Qa (Qv 23) (QL (Qo (Qp (Qq (Q1 (Qw #[48,49,50,51,52,53,54,55,56,57]))))) (Qv (Qn 19)) (Qv (Qn 22))),Qa (Qv 24) (Qe Q4 Qx (Qn 17) (Qn 23)),Qa (Qv 2) (Qd (Qn 24))]
def Wgj:MC:=.reg true X9y
def Wgk:MC:=.seq (.seq W5d (.cond (Qn 4) (.seq W5e .ret) .skip)) (.seq (.seq W5f (.cond (Qn 10) (.seq W5g .ret) .skip)) (.seq Wgj .ret))
def X9z:MC:=.seq W5c Wgk
attribute [go_sem] Y3t Y3u Y3v Y3w Y3x X9y
theorem Jgp:KK QP 90 f90 [] X9z [(Q0 2)] 25:=by refine⟨func90,?_,?_,?_,?_⟩<;>kernel_rfl
theorem W5h:Xaa QP 90=true:=by kernel_rfl
theorem Xvf (h:GI QP gp [(Q0 2)] res 25 X9z args):Does QP gp 90 args res:=Jgp.i W5h h
def X90:=[Qa (Qv 2) (Q2 (Qn 0)),Qa (Qv 4) (Qd (Qo (Qp (Qq (Qs false)))))]
def Wgl:MC:=.r0 X90
def X91:=[Qa (Qv 5) (Qd (Qn 1)),Qa (Qv 6) (Qe Qt QD (Qn 5) (Qo (Qp (Qq (Qr Qu 0))))),Qa (Qv 7) (Qd (Qn 6)),Qb 7 true (Qv 8),Qa (Qv 8) (Qd (Qn 1)),Qb 7 true (Qv 9),Qa (Qv 9) (Qg 1 (Qn 2)),Qb 7 true (Qv 10),Qa (Qv 10) (Qf 1 false (Qn 9)),Qb 7 true (Qv 11),Qa (Qv 11) (Qk Qt (Qn 10)),Qb 7 true (Qv 12),Qa (Qv 12) (Qe Qt Qy (Qn 8) (Qn 11)),Qa (Qv 13) (Qm (Qn 7) (Qn 12) (Qo (Qp (Qq (Qs false))))),Qa (Qv 4) (Qd (Qn 13))]
def Wgm:MC:=.r0 X91
def X92:MC:=.seq Wgl (.seq Wgm .ret)
attribute [go_sem] X90 X91
theorem W5i:KK QP 108 f108 [2] X92 [(Q0 4)] 14:=by refine⟨func108,?_,?_,?_,?_⟩<;>kernel_rfl
theorem Wgn:Xaa QP 108=true:=by kernel_rfl
theorem Wgo (h:GI QP gp [(Q0 4)] res 14 X92 args):Does QP gp 108 args res:=W5i.i Wgn h
def X93:=[Qa (Qv 1) (Q2 (Qn 0)),Qa (Qv 2) (Qd (Qo (Qp (Qq QJ))))]
def Wgp:MC:=.r0 X93
def X94:=[Qa (Qv 3) (QT (Go.Fn.func 141) [(Qn 1)]),Qa (Qv 2) (Qd (Qn 3))]
def Wgq:MC:=.r0 X94
def X95:MC:=.seq Wgp (.seq Wgq .ret)
attribute [go_sem] X93 X94
theorem W5j:KK QP 109 f109 [1] X95 [(Q0 2)] 4:=by refine⟨func109,?_,?_,?_,?_⟩<;>kernel_rfl
theorem Wgr:Xaa QP 109=true:=by kernel_rfl
theorem Wgs (h:GI QP gp [(Q0 2)] res 4 X95 args):Does QP gp 109 args res:=W5j.i Wgr h
def X96:=[Qa (Qv 1) (Q2 (Qn 0)),Qa (Qv 2) (Qd (Qo (Qp (Qq (Qs false)))))]
def Wgt:MC:=.r0 X96
def X97:=[Qa (Qv 4) (Q9 [QJ,QJ,QJ] [(0,(1,(Qo (Qp (Qq (QX (Go.Fn.func 142) [])))))),(1,(1,(Qo (Qp (Qq (QX (Go.Fn.func 143) [])))))),(2,(1,(Qo (Qp (Qq (QX (Go.Fn.func 144) []))))))]),Qa (Qv 3) (Q5 [QJ,QJ,QJ]),Qa none (Ql 3 (Qn 3) (Qn 4))]
def Wgu:MC:=.r0 X97
def X98:=[Qa (Qv 5) (Qg 0 (Qn 1)),Qa (Qv 6) (Qg 0 (Qn 5)),Qa (Qv 7) (Qf 1 false (Qn 6)),Qa (Qv 8) (Qe Qt QD (Qn 7) (Qo (Qp (Qq (Qr Qu 0))))),Qa (Qv 9) (Qd (Qn 8)),Qb 9 true (Qv 10),Qa (Qv 10) (Qg 0 (Qn 1)),Qb 9 true (Qv 11),Qa (Qv 11) (Qg 0 (Qn 10)),Qb 9 true (Qv 12),Qa (Qv 12) (Qf 1 false (Qn 11)),Qb 9 true (Qv 13),Qa (Qv 13) (Qe Qt Qy (Qn 12) (Qo (Qp (Qq (Qr Qu 3))))),Qa (Qv 14) (Qm (Qn 9) (Qn 13) (Qo (Qp (Qq (Qs false))))),Qa (Qv 15) (Qd (Qn 14)),Qb 15 true (Qv 16),Qa (Qv 16) (Qg 0 (Qn 1)),Qb 15 true (Qv 17),Qa (Qv 17) (Qg 0 (Qn 16)),Qb 15 true (Qv 18),Qa (Qv 18) (Qf 1 false (Qn 17)),Qb 15 true (Qv 19),Qa (Qv 19) (MOp.iadA 3 1 (Qn 3) (Qn 18)),Qb 15 true (Qv 20),Qa (Qv 20) (Qf 1 false (Qn 19)),Qb 15 true (Qv 21),Qa (Qv 21) (Qf 7 true (Qn 1)),Qb 15 true (Qv 22),Qc (Qv 22) (QF (Qn 20) [(Qn 21)]),Qa (Qv 23) (Qm (Qn 15) (Qn 22) (Qo (Qp (Qq (Qs false))))),Qa (Qv 2) (Qd (Qn 23))]
def Wgv:MC:=.reg true X98
def X99:MC:=.seq Wgt (.seq Wgu (.seq Wgv .ret))
attribute [go_sem] X96 X97 X98
theorem W5k:KK QP 110 f110 [1] X99 [(Q0 2)] 24:=by refine⟨func110,?_,?_,?_,?_⟩<;>kernel_rfl
theorem Wgw:Xaa QP 110=true:=by kernel_rfl
theorem Wgx (h:GI QP gp [(Q0 2)] res 24 X99 args):Does QP gp 110 args res:=W5k.i Wgw h
def Yaa:=[Qa (Qv 1) (Q2 (Qn 0)),Qa (Qv 2) (Qd (Qo (Qp (Qq (Qs false)))))]
def Wgy:MC:=.r0 Yaa
def Yab:=[Qa (Qv 3) (Qg 0 (Qn 1)),Qa (Qv 4) (Qg 4 (Qn 3)),Qa (Qv 5) (Qf 1 false (Qn 4)),Qa (Qv 6) (Qk Qt (Qn 5)),Qa (Qv 7) (Qg 0 (Qn 1)),Qa (Qv 8) (Qg 5 (Qn 7)),Qa (Qv 9) (Qf 1 false (Qn 8)),Qa (Qv 10) (Qk Qt (Qn 9)),Qa (Qv 11) (Qe Qt Qz (Qn 6) (Qn 10)),Qa (Qv 2) (Qd (Qn 11))]
def Wgz:MC:=.r0 Yab
def Yac:MC:=.seq Wgy (.seq Wgz .ret)
attribute [go_sem] Yaa Yab
theorem W5l:KK QP 113 f113 [1] Yac [(Q0 2)] 12:=by refine⟨func113,?_,?_,?_,?_⟩<;>kernel_rfl
theorem Wg0:Xaa QP 113=true:=by kernel_rfl
theorem Wg1 (h:GI QP gp [(Q0 2)] res 12 Yac args):Does QP gp 113 args res:=W5l.i Wg0 h
def Yad:=[Qa (Qv 4) (Qd (Qn 0)),Qa (Qv 5) (Qd (Qn 0)),Qa (Qv 6) (Qk Qt (Qn 5)),Qa (Qv 7) (Qd (Qn 1)),Qa (Qv 8) (Qh 145 [(Qn 4),(Qn 6),(Qn 7)])]
def Yae:MC:=.r0 Yad
attribute [go_sem] Yad
theorem W5m:KK QP 114 f114 [] Yae [] 9:=by refine⟨func114,?_,?_,?_,?_⟩<;>kernel_rfl
theorem Wg2:Xaa QP 114=true:=by kernel_rfl
theorem Ypb (h:GT QP gp [] pre R 9 Yae args):Tri QP gp 114 args pre R:=W5m.t h
def Yaf:=[Qa (Qv 2) (Q2 (Qn 0)),Qa (Qv 3) (Q2 (Qn 1)),Qa (Qv 4) (Qd (Qo (Qp (Qq (Qr Qu 0)))))]
def Wg3:MC:=.r0 Yaf
def Yag:=[Qa (Qv 5) (Qg 0 (Qn 2)),Qa (Qv 6) (Qf 3 true (Qn 5)),Qa (Qv 7) (Qg 0 (Qn 3)),Qa (Qv 8) (Qf 3 true (Qn 7)),Qa (Qv 9) (Qh 116 [(Qn 6),(Qn 8)]),Qa (Qv 4) (Qd (Qn 9))]
def Wg4:MC:=.r0 Yag
def Yah:MC:=.seq Wg3 (.seq Wg4 .ret)
attribute [go_sem] Yaf Yag
theorem W5n:KK QP 115 f115 [2,3] Yah [(Q0 4)] 10:=by refine⟨func115,?_,?_,?_,?_⟩<;>kernel_rfl
theorem Wg5:Xaa QP 115=true:=by kernel_rfl
theorem Wg6 (h:GI QP gp [(Q0 4)] res 10 Yah args):Does QP gp 115 args res:=W5n.i Wg5 h
def Yai:=[Qa (Qv 2) (Q2 (Qn 0)),Qa (Qv 3) (Q2 (Qn 1)),Qa (Qv 4) (Qd (Qo (Qp (Qq (Qr Qu 0)))))]
def Wg7:MC:=.r0 Yai
def Yaj:=[Qa (Qv 5) (Qf 3 true (Qn 2)),Qa (Qv 6) (Qf 3 true (Qn 3)),Qa (Qv 7) (QH false [Qt,Qt,Q4] (Qn 5) (Qn 6))]
def Wg8:MC:=.r0 Yaj
def Yak:=[Qa (Qv 4) (Qd (Qo (Qp (Qq (Qr Qu 0)))))]
def Wg9:MC:=.r0 Yak
def Yal:=[Qa (Qv 8) (Qg 0 (Qn 2)),Qa (Qv 9) (Qf 1 false (Qn 8)),Qa (Qv 10) (Qg 0 (Qn 3)),Qa (Qv 11) (Qf 1 false (Qn 10)),Qa (Qv 12) (Qh 147 [(Qn 9),(Qn 11)]),Qa (Qv 13) (Qg 1 (Qn 2)),Qa (Qv 14) (Qf 1 false (Qn 13)),Qa (Qv 15) (Qg 1 (Qn 3)),Qa (Qv 16) (Qf 1 false (Qn 15)),Qa (Qv 17) (Qh 147 [(Qn 14),(Qn 16)]),Qa (Qv 18) (Qg 2 (Qn 2)),Qa (Qv 19) (Qf 1 false (Qn 18)),Qa (Qv 20) (Qg 2 (Qn 3)),Qa (Qv 21) (Qf 1 false (Qn 20)),Qc (Qv 22) (Qh 148 [(Qn 19),(Qn 21)]),Qa (Qv 23) (Q6 1 [(Qr Qu 0)] 3 [(0,(Qn 12)),(1,(Qn 17)),(2,(Qn 22))]),Qc (Qv 24) (Qh 146 [(Qn 23)]),Qa (Qv 4) (Qd (Qn 24))]
def Wha:MC:=.reg true Yal
def Xvg:MC:=.seq Wg7 (.seq (.seq Wg8 (.cond (Qn 7) (.seq Wg9 .ret) .skip)) (.seq Wha .ret))
attribute [go_sem] Yai Yaj Yak Yal
theorem W5o:KK QP 116 f116 [2,3] Xvg [(Q0 4)] 25:=by refine⟨func116,?_,?_,?_,?_⟩<;>kernel_rfl
theorem Whb:Xaa QP 116=true:=by kernel_rfl
theorem Whc (h:GI QP gp [(Q0 4)] res 25 Xvg args):Does QP gp 116 args res:=W5o.i Whb h
def Yam:=[Qa (Qv 4) (Qd (Qo (Qp (Qq (Q1 (Qw #[]))))))]
def Whd:MC:=.r0 Yam
def Yan:=[Qa (Qv 8) (Qd (Qn 0)),Qa (Qv 9) (QB (Qn 8)),Qa (Qv 10) (Qg 0 (Qn 9)),Qa (Qv 11) (Qg 1 (Qn 10)),Qa (Qv 12) (Qf 1 false (Qn 11)),Qa (Qv 13) (Qd (Qn 1)),Qa (Qv 14) (Qj 6 (Qn 12) (Qn 13)),Qa (Qv 15) (Qg 1 (Qn 14)),Qa (Qv 16) (Qf 3 true (Qn 15)),Qa (Qv 17) (Qh 19 [(Qn 16)]),Qa (Qv 7) (Qd (Qn 17)),Qa (Qv 18) (Qi (Qn 7) 0),Qa (Qv 19) (Qi (Qn 7) 1),Qa (Qv 5) (Qd (Qn 18)),Qa (Qv 6) (Qd (Qn 19))]
def Whe:MC:=.r0 Yan
def Yao:=[Qa (Qv 20) (Qd (Qn 5)),Qa (Qv 4) (Qd (Qn 20))]
def Whf:MC:=.r0 Yao
def Yap:MC:=.seq Whd (.seq Whe (.seq Whf .ret))
attribute [go_sem] Yam Yan Yao
theorem W5p:KK QP 120 f120 [] Yap [(Q0 4)] 21:=by refine⟨func120,?_,?_,?_,?_⟩<;>kernel_rfl
theorem Whg:Xaa QP 120=true:=by kernel_rfl
theorem Ypc (h:GT QP gp [(Q0 4)] pre R 21 Yap args):Tri QP gp 120 args pre R:=W5p.t h
def Yaq:=[Qa (Qv 4) (Qd (Qo (Qp (Qq (Q1 (Qw #[]))))))]
def Whh:MC:=.r0 Yaq
def Yar:=[Qa (Qv 4) (Qd (Qo (Qp (Qq (Q1 (Qw #[91,93]))))))]
def Whi:MC:=.r0 Yar
def Yas:MC:=.seq Whh (.seq Whi .ret)
attribute [go_sem] Yaq Yar
theorem W5q:KK QP 121 f121 [] Yas [(Q0 4)] 5:=by refine⟨func121,?_,?_,?_,?_⟩<;>kernel_rfl
theorem Whj:Xaa QP 121=true:=by kernel_rfl
theorem Ypd (h:GT QP gp [(Q0 4)] pre R 5 Yas args):Tri QP gp 121 args pre R:=W5q.t h
def Yat:=[Qa (Qv 4) (Qd (Qo (Qp (Qq (Q1 (Qw #[]))))))]
def Whk:MC:=.r0 Yat
def Yau:=[Qa (Qv 4) (Qd (Qo (Qp (Qq (Q1 (Qw #[123,125]))))))]
def Whl:MC:=.r0 Yau
def Yav:MC:=.seq Whk (.seq Whl .ret)
attribute [go_sem] Yat Yau
theorem W5r:KK QP 122 f122 [] Yav [(Q0 4)] 5:=by refine⟨func122,?_,?_,?_,?_⟩<;>kernel_rfl
theorem Whm:Xaa QP 122=true:=by kernel_rfl
theorem Ype (h:GT QP gp [(Q0 4)] pre R 5 Yav args):Tri QP gp 122 args pre R:=W5r.t h
-- f123: trC none
-- f124: trC none
def Yaw:=[Qa (Qv 4) (Qd (Qo (Qp A.nil)))]
def Whn:MC:=.r0 Yaw
def Yax:=[Qa (Qv 13) (Qd (Qn 0)),Qa (Qv 14) (QB (Qn 13)),Qa (Qv 15) (Qg 0 (Qn 14)),Qa (Qv 16) (Qf 2 true (Qn 15)),Qa (Qv 17) (Qd (Qn 1)),Qa (Qv 18) (Qh 50 [(Qn 16),(Qn 17)]),Qa (Qv 12) (Qd (Qn 18)),Qa (Qv 19) (Qi (Qn 12) 0),Qa (Qv 20) (Qi (Qn 12) 1),Qa (Qv 5) (Qd (Qn 19)),Qa (Qv 6) (Qd (Qn 20))]
def Who:MC:=.r0 Yax
def Yay:=[Qa (Qv 7) (Qd (Qo (Qp A.nil)))]
def Whp:MC:=.r0 Yay
def Yaz:=[Qa (Qv 21) (Qd (Qn 5)),Qa (Qv 22) (Qk Qt (Qn 21)),Qa (Qv 23) (Qd (Qo (Qp (Qq (Qr Qu 0)))))]
def Whq:MC:=.r0 Yaz
def Ya0:=[Qa (Qv 24) (Qe Qt Qy (Qn 23) (Qn 22))]
def Whr:MC:=.r0 Ya0
def Ya1:=[Qa (Qv 25) (Qj 3 (Qn 21) (Qn 23)),Qa (Qv 26) (Qf 3 true (Qn 25)),Qa (Qv 9) (Q5 [(Qr Qu 0),(Qr Qu 0),(Q1 (Qw #[]))]),Qa none (Ql 3 (Qn 9) (Qn 26))]
def Whs:MC:=.r0 Ya1
def Ya2:=[Qa (Qv 28) (Qf 3 true (Qn 9)),Qa (Qv 29) (Qh 19 [(Qn 28)]),Qa (Qv 27) (Qd (Qn 29)),Qa (Qv 30) (Qi (Qn 27) 0),Qa (Qv 31) (Qi (Qn 27) 1),Qa (Qv 10) (Qd (Qn 30)),Qa (Qv 11) (Qd (Qn 31))]
def Wht:MC:=.r0 Ya2
def Xvh:=[Qa (Qv 32) (Qd (Qn 7)),Qa (Qv 33) (Qd (Qn 10)),Qa (Qv 34) (Qe Q4 Qx (Qn 33) (Qo (Qp (Qq (Q1 (Qw #[58])))))),Qa (Qv 35) (Q6 1 [(Q1 (Qw #[]))] 1 [(0,(Qn 34))]),Qa (Qv 36) (QE 9 1 16 (Qn 32) (Qn 35)),Qa (Qv 7) (Qd (Qn 36))]
def Ypf:MC:=.r0 Xvh
def Xvi:=[Qa (Qv 37) (Qe Qt Qx (Qn 23) (Qo (Qp (Qq (Qr Qu 1))))),Qa (Qv 23) (Qd (Qn 37))]
def Ypg:MC:=.r0 Xvi
def Yph:MC:=.seq (.blk 1 (.seq Whs (.seq Wht Ypf))) Ypg
def Xvj:=[Qa (Qv 38) (Qd (Qn 0)),Qa (Qv 39) (QB (Qn 38)),Qa (Qv 40) (Qg 0 (Qn 39)),Qa (Qv 41) (Qg 1 (Qn 40)),Qa (Qv 42) (Qf 1 false (Qn 41)),Qa (Qv 43) (Qd (Qn 1)),Qa (Qv 44) (Qj 6 (Qn 42) (Qn 43)),Qa (Qv 45) (Qg 0 (Qn 44)),Qa (Qv 46) (Qf 1 false (Qn 45)),Qa (Qv 47) (Qe Qt Qz (Qn 46) (Qo (Qp (Qq (Qr Qu 1)))))]
def Ypi:MC:=.r0 Xvj
def Xvk:=[Qa (Qv 48) (Q6 1 [(Q1 (Qw #[]))] 1 [(0,(Qo (Qp (Qq (Q1 (Qw #[45]))))))]),Qa (Qv 49) (Qd (Qn 0)),Qa (Qv 50) (QB (Qn 49)),Qa (Qv 51) (Qg 0 (Qn 50)),Qa (Qv 52) (Qg 1 (Qn 51)),Qa (Qv 53) (Qf 1 false (Qn 52)),Qa (Qv 54) (Qd (Qn 1)),Qa (Qv 55) (Qj 6 (Qn 53) (Qn 54)),Qa (Qv 56) (Qg 5 (Qn 55)),Qa (Qv 57) (Qf 1 false (Qn 56)),Qa (Qv 58) (Qk Qt (Qn 57)),Qa (Qv 59) (Qh 152 [(Qn 48),(Qn 58)]),Qa (Qv 7) (Qd (Qn 59))]
def Ypj:MC:=.r0 Xvk
def Xvl:=[Qa (Qv 60) (Qd (Qn 7)),Qa (Qv 4) (Qd (Qn 60))]
def Ypk:MC:=.r0 Xvl
def Ypl:MC:=.seq (.seq Whq (.blk 0 (.loop (.seq Whr (.seq (.cond (Qn 24) .skip (Q3 0)) Yph))))) (.seq (.seq Ypi (.cond (Qn 47) Ypj .skip)) (.seq Ypk .ret))
def Xvm:MC:=.seq Whn (.seq Who (.seq Whp Ypl))
attribute [go_sem] Yaw Yax Yay Yaz Ya0 Ya1 Ya2 Xvh Xvi Xvj Xvk Xvl
theorem W5s:KK QP 125 f125 [] Xvm [(Q0 4)] 61:=by refine⟨func125,?_,?_,?_,?_⟩<;>kernel_rfl
theorem Whu:Xaa QP 125=true:=by kernel_rfl
theorem Xvn (h:GT QP gp [(Q0 4)] pre R 61 Xvm args):Tri QP gp 125 args pre R:=W5s.t h
def Ya3:=[Qa (Qv 2) (Q2 (Qn 0)),Qa (Qv 4) (Qd (Qo (Qp A.nil))),Qa (Qv 5) (Qd (Qo (Qp (Qq (Qr Qu 0)))))]
def Whv:MC:=.r0 Ya3
def Ya4:=[Qa (Qv 9) (Qd (Qn 1)),Qa (Qv 10) (Qe Qt Qy (Qn 9) (Qo (Qp (Qq (Qr Qu 0))))),Qa (Qv 11) (Qd (Qn 10)),Qb 11 false (Qv 12),Qa (Qv 12) (Qd (Qn 1)),Qb 11 false (Qv 13),Qa (Qv 13) (Qg 1 (Qn 2)),Qb 11 false (Qv 14),Qa (Qv 14) (Qf 1 false (Qn 13)),Qb 11 false (Qv 15),Qa (Qv 15) (Qk Qt (Qn 14)),Qb 11 false (Qv 16),Qa (Qv 16) (Qe Qt QD (Qn 12) (Qn 15)),Qa (Qv 17) (Qm (Qn 11) (Qo (Qp (Qq (Qs true)))) (Qn 16))]
def Whw:MC:=.r0 Ya4
def Ya5:=[Qa (Qv 4) (Qd (Qo (Qp A.nil))),Qa (Qv 5) (Qd (Qo (Qp (Qq (Qr Qu 2)))))]
def Whx:MC:=.r0 Ya5
def Ya6:=[Qa (Qv 6) (Qd (Qo (Qp A.nil)))]
def Why:MC:=.r0 Ya6
def Ya7:=[Qa (Qv 18) (Qg 1 (Qn 2)),Qa (Qv 19) (Qf 1 false (Qn 18)),Qa (Qv 20) (Qd (Qn 1)),Qa (Qv 21) (Qj 6 (Qn 19) (Qn 20)),Qa (Qv 22) (Qf 6 true (Qn 21)),Qa (Qv 23) (Qh 155 [(Qn 22)])]
def Whz:MC:=.r0 Ya7
def Xvo:=[Qa (Qv 24) (Qg 1 (Qn 2)),Qa (Qv 25) (Qf 1 false (Qn 24)),Qa (Qv 26) (Qd (Qn 1)),Qa (Qv 27) (Qj 6 (Qn 25) (Qn 26)),Qa (Qv 28) (Qf 6 true (Qn 27)),Qa (Qv 29) (Qh 156 [(Qn 28)]),Qa (Qv 7) (Qd (Qn 29))]
def Ypm:MC:=.r0 Xvo
def Xvp:=[Qa (Qv 8) (Qd (Qo (Qp (Qq (Qr Qu 0)))))]
def Ypn:MC:=.r0 Xvp
def Xvq:=[Qa (Qv 30) (Qd (Qn 8)),Qa (Qv 31) (Qd (Qn 7)),Qa (Qv 32) (Qk Qt (Qn 31)),Qa (Qv 33) (Qe Qt Qy (Qn 30) (Qn 32))]
def Ypo:MC:=.r0 Xvq
def Xvr:=[Qa (Qv 36) (Qd (Qn 6)),Qa (Qv 37) (Qg 1 (Qn 2)),Qa (Qv 38) (Qf 1 false (Qn 37)),Qa (Qv 39) (Qd (Qn 1)),Qa (Qv 40) (Qj 6 (Qn 38) (Qn 39)),Qa (Qv 41) (Qg 4 (Qn 40)),Qa (Qv 42) (Qf 1 false (Qn 41)),Qa (Qv 43) (Qd (Qn 7)),Qa (Qv 44) (Qd (Qn 8)),Qa (Qv 45) (Qj 1 (Qn 43) (Qn 44)),Qa (Qv 46) (Qf 1 false (Qn 45)),Qa (Qv 47) (Qj 3 (Qn 42) (Qn 46)),Qa (Qv 48) (Qf 3 true (Qn 47)),Qa (Qv 49) (Q6 3 [(Qr Qu 0),(Qr Qu 0),(Q1 (Qw #[]))] 1 [(0,(Qn 48))]),Qa (Qv 50) (QE 39 3 32 (Qn 36) (Qn 49)),Qa (Qv 6) (Qd (Qn 50))]
def Ypp:MC:=.reg true Xvr
def Xvs:=[Qa (Qv 34) (Qd (Qn 8)),Qa (Qv 35) (Qe Qt Qx (Qn 34) (Qo (Qp (Qq (Qr Qu 1))))),Qa (Qv 8) (Qd (Qn 35))]
def Ypq:MC:=.r0 Xvs
def Ypr:MC:=.seq Ypn (.blk 0 (.loop (.seq (.seq Ypo (.cond (Qn 33) .skip (Q3 0))) (.seq (.blk 1 Ypp) Ypq))))
def Xfm:=[Qa (Qv 51) (Qd (Qn 6)),Qa (Qv 4) (Qd (Qn 51)),Qa (Qv 5) (Qd (Qo (Qp (Qq (Qr Qu 0)))))]
def Yps:MC:=.r0 Xfm
def Ypt:MC:=.seq (.seq Whz (.cond (Qn 23) (.seq Ypm Ypr) .skip)) (.seq Yps .ret)
def Ypu:MC:=.seq (.seq Whw (.cond (Qn 17) (.seq Whx .ret) .skip)) (.seq Why Ypt)
def Xvt:MC:=.seq Whv Ypu
attribute [go_sem] Ya3 Ya4 Ya5 Ya6 Ya7 Xvo Xvp Xvq Xvr Xvs
theorem W5t:KK QP 127 f127 [2] Xvt [(Q0 4),(Q0 5)] 52:=by refine⟨func127,?_,?_,?_,?_⟩<;>kernel_rfl
theorem Wh0:Xaa QP 127=true:=by kernel_rfl
theorem Wh1 (h:GI QP gp [(Q0 4),(Q0 5)] res 52 Xvt args):Does QP gp 127 args res:=W5t.i Wh0 h
def Xes:=[Qa (Qv 2) (Q2 (Qn 0)),Qa (Qv 4) (Qd (Qo (Qp A.nil))),Qa (Qv 5) (Qd (Qo (Qp (Qq (Qr Qu 0)))))]
def Wh2:MC:=.r0 Xes
def Xet:=[Qa (Qv 10) (Qd (Qn 1)),Qa (Qv 11) (Qe Qt Qy (Qn 10) (Qo (Qp (Qq (Qr Qu 0))))),Qa (Qv 12) (Qd (Qn 11)),Qb 12 false (Qv 13),Qa (Qv 13) (Qd (Qn 1)),Qb 12 false (Qv 14),Qa (Qv 14) (Qg 1 (Qn 2)),Qb 12 false (Qv 15),Qa (Qv 15) (Qf 1 false (Qn 14)),Qb 12 false (Qv 16),Qa (Qv 16) (Qk Qt (Qn 15)),Qb 12 false (Qv 17),Qa (Qv 17) (Qe Qt QD (Qn 13) (Qn 16)),Qa (Qv 18) (Qm (Qn 12) (Qo (Qp (Qq (Qs true)))) (Qn 17))]
def Wh3:MC:=.r0 Xet
def Xeu:=[Qa (Qv 4) (Qd (Qo (Qp A.nil))),Qa (Qv 5) (Qd (Qo (Qp (Qq (Qr Qu 2)))))]
def Wh4:MC:=.r0 Xeu
def Xev:=[Qa (Qv 19) (Qg 1 (Qn 2)),Qa (Qv 20) (Qf 1 false (Qn 19)),Qa (Qv 21) (Qd (Qn 1)),Qa (Qv 22) (Qj 6 (Qn 20) (Qn 21)),Qa (Qv 23) (Qf 6 true (Qn 22)),Qa (Qv 6) (Q5 [(Qr Qu 0),(Qr Qu 0),(Qr Qu 0),(Q1 (Qw #[])),(QA []),(QA [])]),Qa none (Ql 6 (Qn 6) (Qn 23))]
def Wh5:MC:=.r0 Xev
def Xew:=[Qa (Qv 7) (Qd (Qo (Qp A.nil)))]
def Wh6:MC:=.r0 Xew
def Xdb:=[Qa (Qv 24) (Qg 0 (Qn 6)),Qa (Qv 25) (Qf 1 false (Qn 24)),Qa (Qv 26) (Qe Qt Qz (Qn 25) (Qo (Qp (Qq (Qr Qu 1)))))]
def Ypv:MC:=.r0 Xdb
def Xdc:=[Qa (Qv 27) (Qd (Qn 7)),Qa (Qv 28) (Qg 5 (Qn 6)),Qa (Qv 29) (Qf 1 false (Qn 28)),Qa (Qv 30) (QE 3 1 8 (Qn 27) (Qn 29)),Qa (Qv 4) (Qd (Qn 30)),Qa (Qv 5) (Qd (Qo (Qp (Qq (Qr Qu 0)))))]
def Ypw:MC:=.r0 Xdc
def Xdd:=[Qa (Qv 31) (Qf 6 true (Qn 6)),Qa (Qv 32) (Qh 155 [(Qn 31)])]
def Ypx:MC:=.r0 Xdd
def Xde:=[Qa (Qv 33) (Qf 6 true (Qn 6)),Qa (Qv 34) (Qh 156 [(Qn 33)]),Qa (Qv 8) (Qd (Qn 34))]
def Ypy:MC:=.r0 Xde
def Xdf:=[Qa (Qv 9) (Qd (Qo (Qp (Qq (Qr Qu 0)))))]
def Ypz:MC:=.r0 Xdf
def Xdg:=[Qa (Qv 35) (Qd (Qn 9)),Qa (Qv 36) (Qd (Qn 8)),Qa (Qv 37) (Qk Qt (Qn 36)),Qa (Qv 38) (Qe Qt Qy (Qn 35) (Qn 37))]
def Yp0:MC:=.r0 Xdg
def Xdh:=[Qa (Qv 41) (Qd (Qn 7)),Qa (Qv 42) (Qg 5 (Qn 6)),Qa (Qv 43) (Qf 1 false (Qn 42)),Qa (Qv 44) (Qd (Qn 8)),Qa (Qv 45) (Qd (Qn 9)),Qa (Qv 46) (Qj 1 (Qn 44) (Qn 45)),Qa (Qv 47) (Qf 1 false (Qn 46)),Qa (Qv 48) (Qj 1 (Qn 43) (Qn 47)),Qa (Qv 49) (Qf 1 false (Qn 48)),Qa (Qv 50) (Q6 1 [(Qr Qu 0)] 1 [(0,(Qn 49))]),Qa (Qv 51) (QE 3 1 8 (Qn 41) (Qn 50)),Qa (Qv 7) (Qd (Qn 51))]
def Yp1:MC:=.reg true Xdh
def Xdi:=[Qa (Qv 39) (Qd (Qn 9)),Qa (Qv 40) (Qe Qt Qx (Qn 39) (Qo (Qp (Qq (Qr Qu 1))))),Qa (Qv 9) (Qd (Qn 40))]
def Yp2:MC:=.r0 Xdi
def Yp3:MC:=.seq Ypz (.blk 0 (.loop (.seq (.seq Yp0 (.cond (Qn 38) .skip (Q3 0))) (.seq (.blk 1 Yp1) Yp2))))
def Xdu:=[Qa (Qv 52) (Qd (Qn 7)),Qa (Qv 4) (Qd (Qn 52)),Qa (Qv 5) (Qd (Qo (Qp (Qq (Qr Qu 0)))))]
def Yp4:MC:=.r0 Xdu
def Yp5:MC:=.seq (.seq Ypx (.cond (Qn 32) (.seq Ypy Yp3) .skip)) (.seq Yp4 .ret)
def Yp6:MC:=.seq Wh6 (.seq (.seq Ypv (.cond (Qn 26) (.seq Ypw .ret) .skip)) Yp5)
def Yp7:MC:=.seq (.seq Wh3 (.cond (Qn 18) (.seq Wh4 .ret) .skip)) (.seq Wh5 Yp6)
def Xvu:MC:=.seq Wh2 Yp7
theorem W5u:KK QP 128 f128 [2] Xvu [(Q0 4),(Q0 5)] 53:=by refine⟨func128,?_,?_,?_,?_⟩<;>kernel_rfl
theorem Wh7:Xaa QP 128=true:=by kernel_rfl
theorem Wh8 (h:GI QP gp [(Q0 4),(Q0 5)] res 53 Xvu args):Does QP gp 128 args res:=W5u.i Wh7 h
def Ya8:=[Qa (Qv 4) (Qd (Qo (Qp (Qq (Qs false)))))]
def Wh9:MC:=.r0 Ya8
def Ya9:=[Qa (Qv 6) (Qd (Qn 0)),Qa (Qv 7) (Qk Qt (Qn 6)),Qa (Qv 8) (Qd (Qn 1)),Qa (Qv 9) (Qk Qt (Qn 8)),Qa (Qv 10) (Qe Qt Q8 (Qn 7) (Qn 9))]
def Wia:MC:=.r0 Ya9
def Yba:=[Qa (Qv 4) (Qd (Qo (Qp (Qq (Qs false)))))]
def Wib:MC:=.r0 Yba
def Ybb:=[Qa (Qv 5) (Qd (Qo (Qp (Qq (Qr Qu 0)))))]
def Wic:MC:=.r0 Ybb
def Ybc:=[Qa (Qv 11) (Qd (Qn 5)),Qa (Qv 12) (Qd (Qn 0)),Qa (Qv 13) (Qk Qt (Qn 12)),Qa (Qv 14) (Qe Qt Qy (Qn 11) (Qn 13))]
def Wid:MC:=.r0 Ybc
def Xvv:=[Qa (Qv 17) (Qd (Qn 0)),Qa (Qv 18) (Qd (Qn 5)),Qa (Qv 19) (Qj 3 (Qn 17) (Qn 18)),Qa (Qv 20) (Qf 3 true (Qn 19)),Qa (Qv 21) (Qd (Qn 1)),Qa (Qv 22) (Qd (Qn 5)),Qa (Qv 23) (Qj 3 (Qn 21) (Qn 22)),Qa (Qv 24) (Qf 3 true (Qn 23)),Qa (Qv 25) (QH true [Qt,Qt,Q4] (Qn 20) (Qn 24))]
def Yp8:MC:=.reg true Xvv
def Xvw:=[Qa (Qv 4) (Qd (Qo (Qp (Qq (Qs false)))))]
def Yp9:MC:=.r0 Xvw
def Xvx:=[Qa (Qv 15) (Qd (Qn 5)),Qa (Qv 16) (Qe Qt Qx (Qn 15) (Qo (Qp (Qq (Qr Qu 1))))),Qa (Qv 5) (Qd (Qn 16))]
def Yqa:MC:=.r0 Xvx
def Yqb:MC:=.seq (.seq Wid (.cond (Qn 14) .skip (Q3 0))) (.seq (.blk 1 (.seq Yp8 (.cond (Qn 25) (.seq Yp9 .ret) .skip))) Yqa)
def Xvy:=[Qa (Qv 4) (Qd (Qo (Qp (Qq (Qs true)))))]
def Yqc:MC:=.r0 Xvy
def Yqd:MC:=.seq (.seq Wia (.cond (Qn 10) (.seq Wib .ret) .skip)) (.seq (.seq Wic (.blk 0 (.loop Yqb))) (.seq Yqc .ret))
def Xvz:MC:=.seq Wh9 Yqd
attribute [go_sem] Ya8 Ya9 Yba Ybb Ybc Xvv Xvw Xvx Xvy
theorem W5v:KK QP 129 f129 [] Xvz [(Q0 4)] 26:=by refine⟨func129,?_,?_,?_,?_⟩<;>kernel_rfl
theorem Wie:Xaa QP 129=true:=by kernel_rfl
theorem Wif (h:GI QP gp [(Q0 4)] res 26 Xvz args):Does QP gp 129 args res:=W5v.i Wie h
def Ybd:=[Qa (Qv 4) (Qd (Qo (Qp (Qq (Qs false)))))]
def Wig:MC:=.r0 Ybd
def Ybe:=[Qa (Qv 6) (Qd (Qn 0)),Qa (Qv 7) (Qk Qt (Qn 6)),Qa (Qv 8) (Qd (Qn 1)),Qa (Qv 9) (Qk Qt (Qn 8)),Qa (Qv 10) (Qe Qt Q8 (Qn 7) (Qn 9))]
def Wih:MC:=.r0 Ybe
def Ybf:=[Qa (Qv 4) (Qd (Qo (Qp (Qq (Qs false)))))]
def Wii:MC:=.r0 Ybf
def Ybg:=[Qa (Qv 5) (Qd (Qo (Qp (Qq (Qr Qu 0)))))]
def Wij:MC:=.r0 Ybg
def Ybh:=[Qa (Qv 11) (Qd (Qn 5)),Qa (Qv 12) (Qd (Qn 0)),Qa (Qv 13) (Qk Qt (Qn 12)),Qa (Qv 14) (Qe Qt Qy (Qn 11) (Qn 13))]
def Wik:MC:=.r0 Ybh
def Xv0:=[Qa (Qv 17) (Qd (Qn 0)),Qa (Qv 18) (Qd (Qn 5)),Qa (Qv 19) (Qj 1 (Qn 17) (Qn 18)),Qa (Qv 20) (Qf 1 false (Qn 19)),Qa (Qv 21) (Qd (Qn 1)),Qa (Qv 22) (Qd (Qn 5)),Qa (Qv 23) (Qj 1 (Qn 21) (Qn 22)),Qa (Qv 24) (Qf 1 false (Qn 23)),Qa (Qv 25) (Qe Qt Q8 (Qn 20) (Qn 24))]
def Yqe:MC:=.reg true Xv0
def Xv1:=[Qa (Qv 4) (Qd (Qo (Qp (Qq (Qs false)))))]
def Yqf:MC:=.r0 Xv1
def Xv2:=[Qa (Qv 15) (Qd (Qn 5)),Qa (Qv 16) (Qe Qt Qx (Qn 15) (Qo (Qp (Qq (Qr Qu 1))))),Qa (Qv 5) (Qd (Qn 16))]
def Yqg:MC:=.r0 Xv2
def Yqh:MC:=.seq (.seq Wik (.cond (Qn 14) .skip (Q3 0))) (.seq (.blk 1 (.seq Yqe (.cond (Qn 25) (.seq Yqf .ret) .skip))) Yqg)
def Xv3:=[Qa (Qv 4) (Qd (Qo (Qp (Qq (Qs true)))))]
def Yqi:MC:=.r0 Xv3
def Yqj:MC:=.seq (.seq Wih (.cond (Qn 10) (.seq Wii .ret) .skip)) (.seq (.seq Wij (.blk 0 (.loop Yqh))) (.seq Yqi .ret))
def Xv4:MC:=.seq Wig Yqj
attribute [go_sem] Ybd Ybe Ybf Ybg Ybh Xv0 Xv1 Xv2 Xv3
theorem W5w:KK QP 130 f130 [] Xv4 [(Q0 4)] 26:=by refine⟨func130,?_,?_,?_,?_⟩<;>kernel_rfl
theorem Wil:Xaa QP 130=true:=by kernel_rfl
theorem Wim (h:GI QP gp [(Q0 4)] res 26 Xv4 args):Does QP gp 130 args res:=W5w.i Wil h
def Ybi:=[Qa (Qv 5) (Qg 1 (Qn 1)),Qa (Qv 6) (Qf 1 false (Qn 5)),Qa (Qv 7) (Qk Qt (Qn 6)),Qa (Qv 8) (Qd (Qo (Qp (Qq (Qr Qu 0)))))]
def Win:MC:=.r0 Ybi
def Ybj:=[Qa (Qv 9) (Qe Qt Qy (Qn 8) (Qn 7))]
def Wio:MC:=.r0 Ybj
def Ybk:=[Qa (Qv 10) (Qd (Qn 8)),Qa (Qv 11) (Qj 6 (Qn 6) (Qn 8)),Qa (Qv 12) (Qf 6 true (Qn 11)),Qa (Qv 4) (Q5 [(Qr Qu 0),(Qr Qu 0),(Qr Qu 0),(Q1 (Qw #[])),(QA []),(QA [])]),Qa (Qv 3) (Qd (Qn 10)),Qa none (Ql 6 (Qn 4) (Qn 12))]
def Wip:MC:=.r0 Ybk
def Ybl:=[Qa (Qv 13) (Qd (Qn 0)),Qa (Qv 14) (Qd (Qn 3)),Qa (Qv 15) (Qf 6 true (Qn 4)),Qa (Qv 16) (Qg 1 (Qn 1)),Qa (Qv 17) (Qf 1 false (Qn 16)),Qa (Qv 18) (Qk Qt (Qn 17)),Qa (Qv 19) (Q9 [(Qr Qu 0),(Qr Qu 0),(Qr Qu 0),(Q1 (Qw #[])),(QA []),(QA []),(Qr Qu 0)] [(0,(6,(Qn 15))),(6,(1,(Qn 18)))]),Qa (Qv 20) (QF (Qn 13) [(Qn 14),(Qn 19)]),Qa (Qv 21) (QC (Qn 20))]
def Wiq:MC:=.r0 Ybl
def Xv5:=[Qa (Qv 22) (Qe Qt Qx (Qn 8) (Qo (Qp (Qq (Qr Qu 1))))),Qa (Qv 8) (Qd (Qn 22))]
def Yqk:MC:=.r0 Xv5
def Yql:MC:=.seq Wio (.seq (.cond (Qn 9) .skip (Q3 0)) (.seq (.blk 1 (.seq Wip (.seq Wiq (.cond (Qn 21) (Q3 0) .skip)))) Yqk))
def Xv6:MC:=.scope (.seq .skip (.seq Win (.blk 0 (.loop Yql))))
attribute [go_sem] Ybi Ybj Ybk Ybl Xv5
theorem W5x:KK QP 141 f141 [] Xv6 [] 23:=by refine⟨func141,?_,?_,?_,?_⟩<;>kernel_rfl
theorem Wir:Xaa QP 141=true:=by kernel_rfl
theorem Yqm (h:GT QP gp [] pre R 23 Xv6 args):Tri QP gp 141 args pre R:=W5x.t h
def Ybm:=[Qa (Qv 1) (Q2 (Qn 0)),Qa (Qv 2) (Qd (Qo (Qp (Qq (Qs false)))))]
def Wis:MC:=.r0 Ybm
def Ybn:=[Qa (Qv 3) (Qg 0 (Qn 1)),Qa (Qv 4) (Qg 1 (Qn 3)),Qa (Qv 5) (Qf 3 true (Qn 4)),Qa (Qv 6) (Qh 35 [(Qn 5)]),Qa (Qv 7) (Qg 0 (Qn 1)),Qa (Qv 8) (Qg 4 (Qn 7)),Qa (Qv 9) (Qf 1 false (Qn 8)),Qa (Qv 10) (Qk Qt (Qn 9)),Qa (Qv 11) (Qe Qt Qz (Qn 10) (Qo (Qp (Qq (Qr Qu 0))))),Qa (Qv 12) (Qg 0 (Qn 1)),Qa (Qv 13) (Qg 5 (Qn 12)),Qa (Qv 14) (Qf 1 false (Qn 13)),Qa (Qv 15) (Qk Qt (Qn 14)),Qa (Qv 16) (Qe Qt Qz (Qn 15) (Qo (Qp (Qq (Qr Qu 0))))),Qa (Qv 17) (Q6 1 [(Qs false)] 3 [(0,(Qn 6)),(1,(Qn 11)),(2,(Qn 16))]),Qc (Qv 18) (Qh 166 [(Qn 17)]),Qa (Qv 2) (Qd (Qn 18))]
def Wit:MC:=.reg true Ybn
def Ybo:MC:=.seq Wis (.seq Wit .ret)
attribute [go_sem] Ybm Ybn
theorem W5y:KK QP 142 f142 [1] Ybo [(Q0 2)] 19:=by refine⟨func142,?_,?_,?_,?_⟩<;>kernel_rfl
theorem Wiu:Xaa QP 142=true:=by kernel_rfl
theorem Wiv (h:GI QP gp [(Q0 2)] res 19 Ybo args):Does QP gp 142 args res:=W5y.i Wiu h
def Ybp:=[Qa (Qv 1) (Q2 (Qn 0)),Qa (Qv 2) (Qd (Qo (Qp (Qq (Qs false)))))]
def Wiw:MC:=.r0 Ybp
def Ybq:=[Qa (Qv 3) (Qg 0 (Qn 1)),Qa (Qv 4) (Qg 1 (Qn 3)),Qa (Qv 5) (Qf 3 true (Qn 4)),Qa (Qv 6) (Q9 [(Qr Qu 0),(Qr Qu 0),(Q1 (Qw #[]))] []),Qa (Qv 7) (QH false [Qt,Qt,Q4] (Qn 5) (Qn 6)),Qa (Qv 8) (Qg 0 (Qn 1)),Qa (Qv 9) (Qg 4 (Qn 8)),Qa (Qv 10) (Qf 1 false (Qn 9)),Qa (Qv 11) (Qk Qt (Qn 10)),Qa (Qv 12) (Qe Qt Qz (Qn 11) (Qo (Qp (Qq (Qr Qu 0))))),Qa (Qv 13) (Qf 7 true (Qn 1)),Qa (Qv 14) (Qh 167 [(Qn 13)]),Qa (Qv 15) (Q6 1 [(Qs false)] 3 [(0,(Qn 7)),(1,(Qn 12)),(2,(Qn 14))]),Qc (Qv 16) (Qh 166 [(Qn 15)]),Qa (Qv 2) (Qd (Qn 16))]
def Wix:MC:=.reg true Ybq
def Ybr:MC:=.seq Wiw (.seq Wix .ret)
attribute [go_sem] Ybp Ybq
theorem W5z:KK QP 143 f143 [1] Ybr [(Q0 2)] 17:=by refine⟨func143,?_,?_,?_,?_⟩<;>kernel_rfl
theorem Wiy:Xaa QP 143=true:=by kernel_rfl
theorem Wiz (h:GI QP gp [(Q0 2)] res 17 Ybr args):Does QP gp 143 args res:=W5z.i Wiy h
def Ybs:=[Qa (Qv 1) (Q2 (Qn 0)),Qa (Qv 2) (Qd (Qo (Qp (Qq (Qs false)))))]
def Wi0:MC:=.r0 Ybs
def Ybt:=[Qa (Qv 3) (Qg 0 (Qn 1)),Qa (Qv 4) (Qg 1 (Qn 3)),Qa (Qv 5) (Qf 3 true (Qn 4)),Qa (Qv 6) (Q9 [(Qr Qu 0),(Qr Qu 0),(Q1 (Qw #[]))] []),Qa (Qv 7) (QH false [Qt,Qt,Q4] (Qn 5) (Qn 6)),Qa (Qv 8) (Qf 7 true (Qn 1)),Qa (Qv 9) (Qh 113 [(Qn 8)]),Qa (Qv 10) (Qf 7 true (Qn 1)),Qa (Qv 11) (Qh 168 [(Qn 10)]),Qa (Qv 12) (Qf 7 true (Qn 1)),Qa (Qv 13) (Qh 167 [(Qn 12)]),Qa (Qv 14) (Q6 1 [(Qs false)] 4 [(0,(Qn 7)),(1,(Qn 9)),(2,(Qn 11)),(3,(Qn 13))]),Qc (Qv 15) (Qh 166 [(Qn 14)]),Qa (Qv 2) (Qd (Qn 15))]
def Wi1:MC:=.reg true Ybt
def Ybu:MC:=.seq Wi0 (.seq Wi1 .ret)
attribute [go_sem] Ybs Ybt
theorem W50:KK QP 144 f144 [1] Ybu [(Q0 2)] 16:=by refine⟨func144,?_,?_,?_,?_⟩<;>kernel_rfl
theorem Wi2:Xaa QP 144=true:=by kernel_rfl
theorem Wi3 (h:GI QP gp [(Q0 2)] res 16 Ybu args):Does QP gp 144 args res:=W50.i Wi2 h
def Ybv:=[Qa (Qv 6) (Qd (Qo (Qp (Qq (Qr Qu 20)))))]
def Wi4:MC:=.r0 Ybv
def Ybw:=[Qa (Qv 10) (Qd (Qn 6)),Qa (Qv 7) (Qd (Qo (Qp (Qq (Qr Qu 0))))),Qa (Qv 8) (Qd (Qn 10))]
def Wi5:MC:=.r0 Ybw
def Ybx:=[Qa (Qv 11) (Qd (Qn 8)),Qa (Qv 12) (Qd (Qn 1)),Qa (Qv 13) (Qe Qt QO (Qn 11) (Qn 12))]
def Wi6:MC:=.r0 Ybx
def Yby:=[Qa (Qv 14) (Qd (Qn 0)),Qa (Qv 15) (Qd (Qn 7)),Qa (Qv 16) (Qd (Qn 8)),Qa (Qv 17) (Qd (Qn 2)),Qa (Qv 18) (Qh 169 [(Qn 14),(Qn 15),(Qn 16),(Qn 17)])]
def Wi7:MC:=.r0 Yby
def Ybz:=[Qa (Qv 19) (Qd (Qn 8)),Qa (Qv 7) (Qd (Qn 19))]
def Wi8:MC:=.r0 Ybz
def Yb0:=[Qa (Qv 20) (Qd (Qn 8)),Qa (Qv 21) (Qd (Qn 6)),Qa (Qv 22) (Qe Qt Qx (Qn 20) (Qn 21)),Qa (Qv 8) (Qd (Qn 22))]
def Wi9:MC:=.r0 Yb0
def Yqn:MC:=.seq (.seq Wi6 (.cond (Qn 13) .skip (Q3 0))) (.blk 1 (.seq Wi7 (.seq Wi8 Wi9)))
def Xv7:=[Qa (Qv 23) (Qd (Qn 0)),Qa (Qv 24) (Qd (Qn 7)),Qa (Qv 25) (Qd (Qn 1)),Qa (Qv 26) (Qd (Qn 2)),Qa (Qv 27) (Qh 169 [(Qn 23),(Qn 24),(Qn 25),(Qn 26)])]
def Yqo:MC:=.r0 Xv7
def Xv8:=[Qa (Qv 28) (Qd (Qn 6)),Qa (Qv 29) (Qd (Qn 1)),Qa (Qv 30) (Qe Qt Qy (Qn 28) (Qn 29))]
def Yqp:MC:=.r0 Xv8
def Xv9:=[Qa (Qv 31) (Qd (Qn 6)),Qa (Qv 32) (Qe Qt QR (Qo (Qp (Qq (Qr Qu 2)))) (Qn 31)),Qa (Qv 7) (Qd (Qo (Qp (Qq (Qr Qu 0))))),Qa (Qv 8) (Qd (Qn 32))]
def Yqq:MC:=.r0 Xv9
def Xwa:=[Qa (Qv 33) (Qd (Qn 8)),Qa (Qv 34) (Qd (Qn 1)),Qa (Qv 35) (Qe Qt QO (Qn 33) (Qn 34))]
def Yqr:MC:=.r0 Xwa
def Xwb:=[Qa (Qv 36) (Qd (Qn 0)),Qa (Qv 37) (Qd (Qn 7)),Qa (Qv 38) (Qd (Qn 7)),Qa (Qv 39) (Qd (Qn 6)),Qa (Qv 40) (Qe Qt Qx (Qn 38) (Qn 39)),Qa (Qv 41) (Qd (Qn 8)),Qa (Qv 42) (Qd (Qn 2)),Qa (Qv 43) (Qh 170 [(Qn 36),(Qn 37),(Qn 40),(Qn 41),(Qn 42)])]
def Yqs:MC:=.r0 Xwb
def Xwc:=[Qa (Qv 44) (Qd (Qn 8)),Qa (Qv 7) (Qd (Qn 44))]
def Yqt:MC:=.r0 Xwc
def Xwd:=[Qa (Qv 45) (Qd (Qn 8)),Qa (Qv 46) (Qd (Qn 6)),Qa (Qv 47) (Qe Qt QR (Qo (Qp (Qq (Qr Qu 2)))) (Qn 46)),Qa (Qv 48) (Qe Qt Qx (Qn 45) (Qn 47)),Qa (Qv 8) (Qd (Qn 48))]
def Yqu:MC:=.r0 Xwd
def Yqv:MC:=.seq (.seq Yqr (.cond (Qn 35) .skip (Q3 4))) (.blk 5 (.seq Yqs (.seq Yqt Yqu)))
def Xwe:=[Qa (Qv 49) (Qd (Qn 7)),Qa (Qv 50) (Qd (Qn 6)),Qa (Qv 51) (Qe Qt Qx (Qn 49) (Qn 50)),Qa (Qv 9) (Qd (Qn 51))]
def Yqw:MC:=.r0 Xwe
def Xwf:=[Qa (Qv 52) (Qd (Qn 9)),Qa (Qv 53) (Qd (Qn 1)),Qa (Qv 54) (Qe Qt Qy (Qn 52) (Qn 53))]
def Yqx:MC:=.r0 Xwf
def Xwg:=[Qa (Qv 55) (Qd (Qn 0)),Qa (Qv 56) (Qd (Qn 7)),Qa (Qv 57) (Qd (Qn 9)),Qa (Qv 58) (Qd (Qn 1)),Qa (Qv 59) (Qd (Qn 2)),Qa (Qv 60) (Qh 170 [(Qn 55),(Qn 56),(Qn 57),(Qn 58),(Qn 59)])]
def Yqy:MC:=.r0 Xwg
def Xwh:=[Qa (Qv 61) (Qd (Qn 6)),Qa (Qv 62) (Qe Qt QR (Qn 61) (Qo (Qp (Qq (Qr Qu 2))))),Qa (Qv 6) (Qd (Qn 62))]
def Yqz:MC:=.r0 Xwh
def Yq0:MC:=.seq (.seq Yqw (.seq Yqx (.cond (Qn 54) Yqy .skip))) Yqz
def Yq1:MC:=.seq (.seq Yqp (.cond (Qn 30) .skip (Q3 2))) (.blk 3 (.seq Yqq (.seq (.blk 4 (.loop Yqv)) Yq0)))
def Yq2:MC:=.seq Wi5 (.seq (.blk 0 (.loop Yqn)) (.seq Yqo (.blk 2 (.loop Yq1))))
def Xwi:MC:=.seq Wi4 Yq2
attribute [go_sem] Ybv Ybw Ybx Yby Ybz Yb0 Xv7 Xv8 Xv9 Xwa Xwb Xwc Xwd Xwe Xwf Xwg Xwh
theorem W51:KK QP 145 f145 [] Xwi [] 63:=by refine⟨func145,?_,?_,?_,?_⟩<;>kernel_rfl
theorem Wja:Xaa QP 145=true:=by kernel_rfl
theorem Yq3 (h:GT QP gp [] pre R 63 Xwi args):Tri QP gp 145 args pre R:=W51.t h
def Yb1:=[Qa (Qv 2) (Qd (Qo (Qp (Qq (Qr Qu 0)))))]
def Wjb:MC:=.r0 Yb1
def Yb2:=[Qa (Qv 3) (Qd (Qo (Qp (Qq (Qr Qu 0)))))]
def Wjc:MC:=.r0 Yb2
def Yb3:=[Qa (Qv 6) (Qd (Qn 0)),Qa (Qv 7) (Qk Qt (Qn 6)),Qa (Qv 8) (Qd (Qo (Qp (Qq (Qr Qu 0)))))]
def Wjd:MC:=.r0 Yb3
def Yb4:=[Qa (Qv 9) (Qe Qt Qy (Qn 8) (Qn 7))]
def Wje:MC:=.r0 Yb4
def Yb5:=[Qa (Qv 10) (Qj 1 (Qn 6) (Qn 8)),Qa (Qv 11) (Qf 1 false (Qn 10)),Qa (Qv 5) (Qd (Qn 11))]
def Wjf:MC:=.r0 Yb5
def Yb6:=[Qa (Qv 12) (Qd (Qn 5)),Qa (Qv 13) (Qd (Qn 3)),Qa (Qv 14) (Qe Qt Q8 (Qn 12) (Qn 13))]
def Wjg:MC:=.r0 Yb6
def Yb7:=[Qa (Qv 15) (Qd (Qn 5)),Qa (Qv 2) (Qd (Qn 15))]
def Wjh:MC:=.r0 Yb7
def Xwj:=[Qa (Qv 16) (Qe Qt Qx (Qn 8) (Qo (Qp (Qq (Qr Qu 1))))),Qa (Qv 8) (Qd (Qn 16))]
def Yq4:MC:=.r0 Xwj
def Yq5:MC:=.seq (.blk 1 (.seq Wjf (.seq Wjg (.cond (Qn 14) (.seq Wjh .ret) .skip)))) Yq4
def Xwk:=[Qa (Qv 17) (Qd (Qn 3)),Qa (Qv 2) (Qd (Qn 17))]
def Yq6:MC:=.r0 Xwk
def Yq7:MC:=.seq (.seq Wjd (.blk 0 (.loop (.seq Wje (.seq (.cond (Qn 9) .skip (Q3 0)) Yq5))))) (.seq Yq6 .ret)
def Xwl:MC:=.seq Wjb (.seq Wjc Yq7)
attribute [go_sem] Yb1 Yb2 Yb3 Yb4 Yb5 Yb6 Yb7 Xwj Xwk
theorem W52:KK QP 146 f146 [] Xwl [(Q0 2)] 18:=by refine⟨func146,?_,?_,?_,?_⟩<;>kernel_rfl
theorem Wji:Xaa QP 146=true:=by kernel_rfl
theorem Wjj (h:GI QP gp [(Q0 2)] res 18 Xwl args):Does QP gp 146 args res:=W52.i Wji h
def Yb8:=[Qa (Qv 4) (Qd (Qo (Qp (Qq (Qr Qu 0)))))]
def Wjk:MC:=.r0 Yb8
def Yb9:=[Qa (Qv 7) (Qd (Qn 0)),Qa (Qv 8) (Qh 171 [(Qn 7)]),Qa (Qv 5) (Qd (Qn 8))]
def Wjl:MC:=.r0 Yb9
def Yca:=[Qa (Qv 9) (Qd (Qn 1)),Qa (Qv 10) (Qh 171 [(Qn 9)]),Qa (Qv 6) (Qd (Qn 10))]
def Wjm:MC:=.r0 Yca
def Ycb:=[Qa (Qv 11) (Qd (Qn 5))]
def Wjn:MC:=.r0 Ycb
def Ycc:=[Qa (Qv 12) (Qd (Qn 6))]
def Wjo:MC:=.r0 Ycc
def Ycd:=[Qa (Qv 4) (Qd (Qo (Qp (Qq (Qr Qu 0)))))]
def Wjp:MC:=.r0 Ycd
def Xwm:=[Qa (Qv 4) (Qd (Qo (Qp (Qq (Qr Qu (-1))))))]
def Yq8:MC:=.r0 Xwm
def Yq9:MC:=.seq Wjn (.cond (Qn 11) (.seq (.seq Wjo (.cond (Qn 12) (.seq Wjp .ret) .skip)) (.seq Yq8 .ret)) .skip)
def Xwn:=[Qa (Qv 13) (Qd (Qn 6))]
def Yra:MC:=.r0 Xwn
def Xwo:=[Qa (Qv 4) (Qd (Qo (Qp (Qq (Qr Qu 1)))))]
def Yrb:MC:=.r0 Xwo
def Xwp:=[Qa (Qv 14) (Qd (Qn 0)),Qa (Qv 15) (Qd (Qn 1)),Qa (Qv 16) (Qe Qt Qy (Qn 14) (Qn 15))]
def Yrc:MC:=.r0 Xwp
def Xwq:=[Qa (Qv 4) (Qd (Qo (Qp (Qq (Qr Qu (-1))))))]
def Yrd:MC:=.r0 Xwq
def Xwr:=[Qa (Qv 17) (Qd (Qn 0)),Qa (Qv 18) (Qd (Qn 1)),Qa (Qv 19) (Qe Qt Q7 (Qn 17) (Qn 18))]
def Yre:MC:=.r0 Xwr
def Xws:=[Qa (Qv 4) (Qd (Qo (Qp (Qq (Qr Qu 1)))))]
def Yrf:MC:=.r0 Xws
def Xwt:=[Qa (Qv 4) (Qd (Qo (Qp (Qq (Qr Qu 0)))))]
def Yrg:MC:=.r0 Xwt
def Yrh:MC:=.seq (.seq Yrc (.cond (Qn 16) (.seq Yrd .ret) .skip)) (.seq (.seq Yre (.cond (Qn 19) (.seq Yrf .ret) .skip)) (.seq Yrg .ret))
def Yri:MC:=.seq Yq9 (.seq (.seq Yra (.cond (Qn 13) (.seq Yrb .ret) .skip)) Yrh)
def Xwu:MC:=.seq Wjk (.seq Wjl (.seq Wjm Yri))
attribute [go_sem] Yb8 Yb9 Yca Ycb Ycc Ycd Xwm Xwn Xwo Xwp Xwq Xwr Xws Xwt
theorem W53:KK QP 147 f147 [] Xwu [(Q0 4)] 20:=by refine⟨func147,?_,?_,?_,?_⟩<;>kernel_rfl
theorem Wjq:Xaa QP 147=true:=by kernel_rfl
theorem Wjr (h:GI QP gp [(Q0 4)] res 20 Xwu args):Does QP gp 147 args res:=W53.i Wjq h
def Yce:=[Qa (Qv 4) (Qd (Qo (Qp (Qq (Qr Qu 0)))))]
def Wjs:MC:=.r0 Yce
def Ycf:=[Qa (Qv 7) (Qd (Qn 0)),Qa (Qv 8) (Qh 172 [(Qn 7)]),Qa (Qv 5) (Qd (Qn 8))]
def Wjt:MC:=.r0 Ycf
def Ycg:=[Qa (Qv 9) (Qd (Qn 1)),Qa (Qv 10) (Qh 172 [(Qn 9)]),Qa (Qv 6) (Qd (Qn 10))]
def Wju:MC:=.r0 Ycg
def Ych:=[Qa (Qv 11) (Qd (Qn 5))]
def Wjv:MC:=.r0 Ych
def Yci:=[Qa (Qv 12) (Qd (Qn 6))]
def Wjw:MC:=.r0 Yci
def Ycj:=[Qa (Qv 4) (Qd (Qo (Qp (Qq (Qr Qu 0)))))]
def Wjx:MC:=.r0 Ycj
def Xwv:=[Qa (Qv 4) (Qd (Qo (Qp (Qq (Qr Qu (-1))))))]
def Yrj:MC:=.r0 Xwv
def Yrk:MC:=.seq Wjv (.cond (Qn 11) (.seq (.seq Wjw (.cond (Qn 12) (.seq Wjx .ret) .skip)) (.seq Yrj .ret)) .skip)
def Xww:=[Qa (Qv 13) (Qd (Qn 6))]
def Yrl:MC:=.r0 Xww
def Xwx:=[Qa (Qv 4) (Qd (Qo (Qp (Qq (Qr Qu 1)))))]
def Yrm:MC:=.r0 Xwx
def Xwy:=[Qa (Qv 14) (Qd (Qn 0)),Qa (Qv 15) (Qd (Qn 1)),Qa (Qv 16) (Qe Q4 Qy (Qn 14) (Qn 15))]
def Yrn:MC:=.r0 Xwy
def Xwz:=[Qa (Qv 4) (Qd (Qo (Qp (Qq (Qr Qu (-1))))))]
def Yro:MC:=.r0 Xwz
def Xw0:=[Qa (Qv 17) (Qd (Qn 0)),Qa (Qv 18) (Qd (Qn 1)),Qa (Qv 19) (Qe Q4 Q7 (Qn 17) (Qn 18))]
def Yrp:MC:=.r0 Xw0
def Xw1:=[Qa (Qv 4) (Qd (Qo (Qp (Qq (Qr Qu 1)))))]
def Yrq:MC:=.r0 Xw1
def Xw2:=[Qa (Qv 4) (Qd (Qo (Qp (Qq (Qr Qu 0)))))]
def Yrr:MC:=.r0 Xw2
def Yrs:MC:=.seq (.seq Yrn (.cond (Qn 16) (.seq Yro .ret) .skip)) (.seq (.seq Yrp (.cond (Qn 19) (.seq Yrq .ret) .skip)) (.seq Yrr .ret))
def Yrt:MC:=.seq Yrk (.seq (.seq Yrl (.cond (Qn 13) (.seq Yrm .ret) .skip)) Yrs)
def Xw3:MC:=.seq Wjs (.seq Wjt (.seq Wju Yrt))
attribute [go_sem] Yce Ycf Ycg Ych Yci Ycj Xwv Xww Xwx Xwy Xwz Xw0 Xw1 Xw2
theorem W54:KK QP 148 f148 [] Xw3 [(Q0 4)] 20:=by refine⟨func148,?_,?_,?_,?_⟩<;>kernel_rfl
theorem Wjy:Xaa QP 148=true:=by kernel_rfl
theorem Wjz (h:GI QP gp [(Q0 4)] res 20 Xw3 args):Does QP gp 148 args res:=W54.i Wjy h
def Yck:=[Qa (Qv 1) (Q2 (Qn 0)),Qa (Qv 2) (Qd (Qo (Qp (Qq (Qr Qu 0))))),Qa (Qv 3) (Qd (Qo (Qp (Qq (Qr Qu 0)))))]
def Wj0:MC:=.r0 Yck
def Ycl:=[Qa (Qv 5) (Qg 1 (Qn 1)),Qa (Qv 6) (Qf 1 false (Qn 5)),Qa (Qv 7) (Qk Qt (Qn 6)),Qa (Qv 8) (Qe Qt Q7 (Qn 7) (Qo (Qp (Qq (Qr Qu 200)))))]
def Wj1:MC:=.r0 Ycl
def Ycm:=[Qa (Qv 2) (Qd (Qo (Qp (Qq (Qr Qu 0))))),Qa (Qv 3) (Qd (Qo (Qp (Qq (Qr Qu 71)))))]
def Wj2:MC:=.r0 Ycm
def Ycn:=[Qa (Qv 9) (Qg 0 (Qn 1)),Qa (Qv 10) (Qf 1 false (Qn 9)),Qa (Qv 11) (Qe Qt Qy (Qn 10) (Qo (Qp (Qq (Qr Qu 0))))),Qa (Qv 12) (Qd (Qn 11)),Qb 12 false (Qv 13),Qa (Qv 13) (Qg 0 (Qn 1)),Qb 12 false (Qv 14),Qa (Qv 14) (Qf 1 false (Qn 13)),Qb 12 false (Qv 15),Qa (Qv 15) (Qg 1 (Qn 1)),Qb 12 false (Qv 16),Qa (Qv 16) (Qf 1 false (Qn 15)),Qb 12 false (Qv 17),Qa (Qv 17) (Qk Qt (Qn 16)),Qb 12 false (Qv 18),Qa (Qv 18) (Qe Qt QD (Qn 14) (Qn 17)),Qa (Qv 19) (Qm (Qn 12) (Qo (Qp (Qq (Qs true)))) (Qn 18))]
def Wj3:MC:=.r0 Ycn
def Yco:=[Qa (Qv 2) (Qd (Qo (Qp (Qq (Qr Qu (-1)))))),Qa (Qv 3) (Qd (Qo (Qp (Qq (Qr Qu 70)))))]
def Wj4:MC:=.r0 Yco
def Xw4:=[Qa (Qv 4) (Qd (Qo (Qp (Qq (Qr Qu 0)))))]
def Yru:MC:=.r0 Xw4
def Xw5:=[Qa (Qv 20) (Qd (Qn 4)),Qa (Qv 21) (Qg 1 (Qn 1)),Qa (Qv 22) (Qf 1 false (Qn 21)),Qa (Qv 23) (Qk Qt (Qn 22)),Qa (Qv 24) (Qe Qt Qy (Qn 20) (Qn 23))]
def Yrv:MC:=.r0 Xw5
def Xw6:=[Qa (Qv 27) (Qg 1 (Qn 1)),Qa (Qv 28) (Qf 1 false (Qn 27)),Qa (Qv 29) (Qd (Qn 4)),Qa (Qv 30) (Qj 6 (Qn 28) (Qn 29)),Qa (Qv 31) (Qf 6 true (Qn 30)),Qa (Qv 32) (Qg 1 (Qn 1)),Qa (Qv 33) (Qf 1 false (Qn 32)),Qa (Qv 34) (Qk Qt (Qn 33)),Qc (Qv 35) (Qh 177 [(Qn 31),(Qn 34)]),Qa (Qv 36) (QC (Qn 35))]
def Yrw:MC:=.reg true Xw6
def Xw7:=[Qa (Qv 37) (Qd (Qn 4)),Qa (Qv 2) (Qd (Qn 37)),Qa (Qv 3) (Qd (Qo (Qp (Qq (Qr Qu 70)))))]
def Yrx:MC:=.r0 Xw7
def Xw8:=[Qa (Qv 25) (Qd (Qn 4)),Qa (Qv 26) (Qe Qt Qx (Qn 25) (Qo (Qp (Qq (Qr Qu 1))))),Qa (Qv 4) (Qd (Qn 26))]
def Yry:MC:=.r0 Xw8
def Yrz:MC:=.seq (.seq Yrv (.cond (Qn 24) .skip (Q3 0))) (.seq (.blk 1 (.seq Yrw (.cond (Qn 36) (.seq Yrx .ret) .skip))) Yry)
def Xw9:=[Qa (Qv 2) (Qd (Qo (Qp (Qq (Qr Qu 0))))),Qa (Qv 3) (Qd (Qo (Qp (Qq (Qr Qu 0)))))]
def Yr0:MC:=.r0 Xw9
def Yr1:MC:=.seq (.seq Wj3 (.cond (Qn 19) (.seq Wj4 .ret) .skip)) (.seq (.seq Yru (.blk 0 (.loop Yrz))) (.seq Yr0 .ret))
def Xxa:MC:=.seq Wj0 (.seq (.seq Wj1 (.cond (Qn 8) (.seq Wj2 .ret) .skip)) Yr1)
attribute [go_sem] Yck Ycl Ycm Ycn Yco Xw4 Xw5 Xw6 Xw7 Xw8 Xw9
theorem W55:KK QP 153 f153 [1] Xxa [(Q0 2),(Q0 3)] 38:=by refine⟨func153,?_,?_,?_,?_⟩<;>kernel_rfl
theorem Wj5:Xaa QP 153=true:=by kernel_rfl
theorem Wj6 (h:GI QP gp [(Q0 2),(Q0 3)] res 38 Xxa args):Does QP gp 153 args res:=W55.i Wj5 h
def Ycp:=[Qa (Qv 1) (Q2 (Qn 0)),Qa (Qv 2) (Qd (Qo (Qp (Qq (Qs false)))))]
def Wj7:MC:=.r0 Ycp
def Ycq:=[Qa (Qv 3) (Qg 0 (Qn 1)),Qa (Qv 4) (Qf 1 false (Qn 3)),Qa (Qv 5) (Qe Qt Qz (Qn 4) (Qo (Qp (Qq (Qr Qu 2))))),Qa (Qv 6) (Qd (Qn 5)),Qb 6 true (Qv 7),Qa (Qv 7) (Qg 4 (Qn 1)),Qb 6 true (Qv 8),Qa (Qv 8) (Qf 1 false (Qn 7)),Qb 6 true (Qv 9),Qa (Qv 9) (Qk Qt (Qn 8)),Qb 6 true (Qv 10),Qa (Qv 10) (Qg 5 (Qn 1)),Qb 6 true (Qv 11),Qa (Qv 11) (Qf 1 false (Qn 10)),Qb 6 true (Qv 12),Qa (Qv 12) (Qk Qt (Qn 11)),Qb 6 true (Qv 13),Qa (Qv 13) (Qe Qt Qz (Qn 9) (Qn 12)),Qa (Qv 14) (Qm (Qn 6) (Qn 13) (Qo (Qp (Qq (Qs false))))),Qa (Qv 2) (Qd (Qn 14))]
def Wj8:MC:=.r0 Ycq
def Ycr:MC:=.seq Wj7 (.seq Wj8 .ret)
attribute [go_sem] Ycp Ycq
theorem W56:KK QP 155 f155 [1] Ycr [(Q0 2)] 15:=by refine⟨func155,?_,?_,?_,?_⟩<;>kernel_rfl
theorem Wj9:Xaa QP 155=true:=by kernel_rfl
theorem Wka (h:GI QP gp [(Q0 2)] res 15 Ycr args):Does QP gp 155 args res:=W56.i Wj9 h
def Ycs:=[Qa (Qv 1) (Q2 (Qn 0)),Qa (Qv 2) (Qd (Qo (Qp A.nil)))]
def Wkb:MC:=.r0 Ycs
def Yct:=[Qa (Qv 3) (Qd (Qo (Qp A.nil)))]
def Wkc:MC:=.r0 Yct
def Ycu:=[Qa (Qv 4) (Qd (Qo (Qp (Qq (Qr Qu 0)))))]
def Wkd:MC:=.r0 Ycu
def Ycv:=[Qa (Qv 8) (Qd (Qn 4)),Qa (Qv 9) (Qg 4 (Qn 1)),Qa (Qv 10) (Qf 1 false (Qn 9)),Qa (Qv 11) (Qk Qt (Qn 10)),Qa (Qv 12) (Qe Qt Qy (Qn 8) (Qn 11))]
def Wke:MC:=.r0 Ycv
def Ycw:=[Qa (Qv 5) (Qd (Qo (Qp A.nil)))]
def Wkf:MC:=.r0 Ycw
def Ycx:=[Qa (Qv 6) (Qd (Qo (Qp (Qq (Qs false)))))]
def Wkg:MC:=.r0 Ycx
def Xxb:=[Qa (Qv 7) (Qd (Qo (Qp (Qq (Qr Qu 0)))))]
def Yr2:MC:=.r0 Xxb
def Xxc:=[Qa (Qv 15) (Qd (Qn 7)),Qa (Qv 16) (Qd (Qn 3)),Qa (Qv 17) (Qk Qt (Qn 16)),Qa (Qv 18) (Qe Qt Qy (Qn 15) (Qn 17))]
def Yr3:MC:=.r0 Xxc
def Xxd:=[Qa (Qv 21) (Qd (Qn 6)),Qa (Qv 22) (QC (Qn 21)),Qa (Qv 23) (Qd (Qn 22)),Qb 23 true (Qv 24),Qa (Qv 24) (Qg 4 (Qn 1)),Qb 23 true (Qv 25),Qa (Qv 25) (Qf 1 false (Qn 24)),Qb 23 true (Qv 26),Qa (Qv 26) (Qd (Qn 4)),Qb 23 true (Qv 27),Qa (Qv 27) (Qj 3 (Qn 25) (Qn 26)),Qb 23 true (Qv 28),Qa (Qv 28) (Qf 3 true (Qn 27)),Qb 23 true (Qv 29),Qa (Qv 29) (Qg 4 (Qn 1)),Qb 23 true (Qv 30),Qa (Qv 30) (Qf 1 false (Qn 29)),Qb 23 true (Qv 31),Qa (Qv 31) (Qd (Qn 3)),Qb 23 true (Qv 32),Qa (Qv 32) (Qd (Qn 7)),Qb 23 true (Qv 33),Qa (Qv 33) (Qj 1 (Qn 31) (Qn 32)),Qb 23 true (Qv 34),Qa (Qv 34) (Qf 1 false (Qn 33)),Qb 23 true (Qv 35),Qa (Qv 35) (Qj 3 (Qn 30) (Qn 34)),Qb 23 true (Qv 36),Qa (Qv 36) (Qf 3 true (Qn 35)),Qb 23 true (Qv 37),Qc (Qv 37) (Qh 178 [(Qn 28),(Qn 36)]),Qb 23 true (Qv 38),Qa (Qv 38) (Qe Qt Qy (Qn 37) (Qo (Qp (Qq (Qr Qu 0))))),Qa (Qv 39) (Qm (Qn 23) (Qn 38) (Qo (Qp (Qq (Qs false)))))]
def Yr4:MC:=.reg true Xxd
def Xxe:=[Qa (Qv 40) (Qd (Qn 5)),Qa (Qv 41) (Qd (Qn 4)),Qa (Qv 42) (Q6 1 [(Qr Qu 0)] 1 [(0,(Qn 41))]),Qa (Qv 43) (QE 3 1 8 (Qn 40) (Qn 42)),Qa (Qv 5) (Qd (Qn 43))]
def Yr5:MC:=.r0 Xxe
def Xxf:=[Qa (Qv 6) (Qd (Qo (Qp (Qq (Qs true)))))]
def Yr6:MC:=.r0 Xxf
def Xxg:=[Qa (Qv 44) (Qd (Qn 5)),Qa (Qv 45) (Qd (Qn 3)),Qa (Qv 46) (Qd (Qn 7)),Qa (Qv 47) (Qj 1 (Qn 45) (Qn 46)),Qa (Qv 48) (Qf 1 false (Qn 47)),Qa (Qv 49) (Q6 1 [(Qr Qu 0)] 1 [(0,(Qn 48))]),Qa (Qv 50) (QE 3 1 8 (Qn 44) (Qn 49)),Qa (Qv 5) (Qd (Qn 50))]
def Yr7:MC:=.r0 Xxg
def Yr8:MC:=.seq (.seq Yr4 (.cond (Qn 39) (.seq Yr5 Yr6) .skip)) Yr7
def Xxh:=[Qa (Qv 19) (Qd (Qn 7)),Qa (Qv 20) (Qe Qt Qx (Qn 19) (Qo (Qp (Qq (Qr Qu 1))))),Qa (Qv 7) (Qd (Qn 20))]
def Yr9:MC:=.r0 Xxh
def Ysa:MC:=.seq Yr2 (.blk 2 (.loop (.seq (.seq Yr3 (.cond (Qn 18) .skip (Q3 2))) (.seq (.blk 3 Yr8) Yr9))))
def Xxi:=[Qa (Qv 51) (Qd (Qn 6)),Qa (Qv 52) (QC (Qn 51))]
def Ysb:MC:=.r0 Xxi
def Xxj:=[Qa (Qv 53) (Qd (Qn 5)),Qa (Qv 54) (Qd (Qn 4)),Qa (Qv 55) (Q6 1 [(Qr Qu 0)] 1 [(0,(Qn 54))]),Qa (Qv 56) (QE 3 1 8 (Qn 53) (Qn 55)),Qa (Qv 5) (Qd (Qn 56))]
def Ysc:MC:=.r0 Xxj
def Xxk:=[Qa (Qv 57) (Qd (Qn 5)),Qa (Qv 3) (Qd (Qn 57))]
def Ysd:MC:=.r0 Xxk
def Yse:MC:=.seq Ysa (.seq (.seq Ysb (.cond (Qn 52) Ysc .skip)) Ysd)
def Xxl:=[Qa (Qv 13) (Qd (Qn 4)),Qa (Qv 14) (Qe Qt Qx (Qn 13) (Qo (Qp (Qq (Qr Qu 1))))),Qa (Qv 4) (Qd (Qn 14))]
def Ysf:MC:=.r0 Xxl
def Ysg:MC:=.seq (.blk 1 (.seq Wkf (.seq Wkg Yse))) Ysf
def Xxm:=[Qa (Qv 58) (Qd (Qn 3)),Qa (Qv 2) (Qd (Qn 58))]
def Ysh:MC:=.r0 Xxm
def Ysi:MC:=.seq (.seq Wkd (.blk 0 (.loop (.seq (.seq Wke (.cond (Qn 12) .skip (Q3 0))) Ysg)))) (.seq Ysh .ret)
def Xxn:MC:=.seq Wkb (.seq Wkc Ysi)
attribute [go_sem] Ycs Yct Ycu Ycv Ycw Ycx Xxb Xxc Xxd Xxe Xxf Xxg Xxh Xxi Xxj Xxk Xxl Xxm
theorem W57:KK QP 156 f156 [1] Xxn [(Q0 2)] 59:=by refine⟨func156,?_,?_,?_,?_⟩<;>kernel_rfl
theorem Wkh:Xaa QP 156=true:=by kernel_rfl
theorem Wki (h:GI QP gp [(Q0 2)] res 59 Xxn args):Does QP gp 156 args res:=W57.i Wkh h
def Ycy:=[Qa (Qv 2) (Qd (Qo (Qp (Qq (Qs false)))))]
def Wkj:MC:=.r0 Ycy
def Ycz:=[Qa (Qv 3) (Qd (Qn 0)),Qa (Qv 4) (Qh 187 [(Qn 3),(Qo (Qp (Qq (Qs false))))]),Qa (Qv 5) (QC (Qn 4)),Qa (Qv 2) (Qd (Qn 5))]
def Wkk:MC:=.r0 Ycz
def Yc0:MC:=.seq Wkj (.seq Wkk .ret)
attribute [go_sem] Ycy Ycz
theorem W58:KK QP 166 f166 [] Yc0 [(Q0 2)] 6:=by refine⟨func166,?_,?_,?_,?_⟩<;>kernel_rfl
theorem Wkl:Xaa QP 166=true:=by kernel_rfl
theorem Wkm (h:GI QP gp [(Q0 2)] res 6 Yc0 args):Does QP gp 166 args res:=W58.i Wkl h
def Yc1:=[Qa (Qv 1) (Q2 (Qn 0)),Qa (Qv 2) (Qd (Qo (Qp (Qq (Qs false)))))]
def Wkn:MC:=.r0 Yc1
def Yc2:=[Qa (Qv 4) (QT (Go.Fn.func 188) [(Qn 1)]),Qa (Qv 3) (Qd (Qn 4))]
def Wko:MC:=.r0 Yc2
def Yc3:=[Qa (Qv 5) (Qg 0 (Qn 1)),Qa (Qv 6) (Qg 5 (Qn 5)),Qa (Qv 7) (Qf 1 false (Qn 6)),Qa (Qv 8) (Qd (Qn 3)),Qa (Qv 9) (Qh 189 [(Qn 7),(Qn 8)]),Qa (Qv 10) (QC (Qn 9)),Qa (Qv 2) (Qd (Qn 10))]
def Wkp:MC:=.r0 Yc3
def Yc4:MC:=.seq Wkn (.seq Wko (.seq Wkp .ret))
attribute [go_sem] Yc1 Yc2 Yc3
theorem W59:KK QP 167 f167 [1] Yc4 [(Q0 2)] 11:=by refine⟨func167,?_,?_,?_,?_⟩<;>kernel_rfl
theorem Wkq:Xaa QP 167=true:=by kernel_rfl
theorem Wkr (h:GI QP gp [(Q0 2)] res 11 Yc4 args):Does QP gp 167 args res:=W59.i Wkq h
def Yc5:=[Qa (Qv 1) (Q2 (Qn 0)),Qa (Qv 2) (Qd (Qo (Qp (Qq (Qs false)))))]
def Wks:MC:=.r0 Yc5
def Yc6:=[Qa (Qv 3) (Qd (Qo (Qp (Qq (QX (Go.Fn.func 190) [])))))]
def Wkt:MC:=.r0 Yc6
def Yc7:=[Qa (Qv 4) (Qg 0 (Qn 1)),Qa (Qv 5) (Qg 4 (Qn 4)),Qa (Qv 6) (Qf 1 false (Qn 5)),Qa (Qv 7) (Qd (Qn 3)),Qa (Qv 8) (Qh 191 [(Qn 6),(Qn 7)]),Qa (Qv 9) (QC (Qn 8)),Qa (Qv 10) (Qd (Qn 9)),Qb 10 true (Qv 11),Qa (Qv 11) (Qg 0 (Qn 1)),Qb 10 true (Qv 12),Qa (Qv 12) (Qg 4 (Qn 11)),Qb 10 true (Qv 13),Qa (Qv 13) (Qf 1 false (Qn 12)),Qb 10 true (Qv 14),Qa (Qv 14) (Qh 192 [(Qn 13)]),Qb 10 true (Qv 15),Qa (Qv 15) (QC (Qn 14)),Qa (Qv 16) (Qm (Qn 10) (Qn 15) (Qo (Qp (Qq (Qs false))))),Qa (Qv 2) (Qd (Qn 16))]
def Wku:MC:=.r0 Yc7
def Yc8:MC:=.seq Wks (.seq Wkt (.seq Wku .ret))
attribute [go_sem] Yc5 Yc6 Yc7
theorem W6a:KK QP 168 f168 [1] Yc8 [(Q0 2)] 17:=by refine⟨func168,?_,?_,?_,?_⟩<;>kernel_rfl
theorem Wkv:Xaa QP 168=true:=by kernel_rfl
theorem Wkw (h:GI QP gp [(Q0 2)] res 17 Yc8 args):Does QP gp 168 args res:=W6a.i Wkv h
def Yc9:=[Qa (Qv 10) (Qd (Qn 1)),Qa (Qv 11) (Qe Qt Qx (Qn 10) (Qo (Qp (Qq (Qr Qu 1))))),Qa (Qv 8) (Qd (Qn 11))]
def Wkx:MC:=.r0 Yc9
def Yda:=[Qa (Qv 12) (Qd (Qn 8)),Qa (Qv 13) (Qd (Qn 2)),Qa (Qv 14) (Qe Qt Qy (Qn 12) (Qn 13))]
def Wky:MC:=.r0 Yda
def Ydb:=[Qa (Qv 17) (Qd (Qn 8)),Qa (Qv 9) (Qd (Qn 17))]
def Wkz:MC:=.r0 Ydb
def Ydc:=[Qa (Qv 18) (Qd (Qn 9)),Qa (Qv 19) (Qd (Qn 1)),Qa (Qv 20) (Qe Qt Q7 (Qn 18) (Qn 19)),Qa (Qv 21) (Qd (Qn 20)),Qb 21 true (Qv 22),Qa (Qv 22) (Qd (Qn 3)),Qb 21 true (Qv 23),Qa (Qv 23) (Qd (Qn 0)),Qb 21 true (Qv 24),Qa (Qv 24) (Qd (Qn 9)),Qb 21 true (Qv 25),Qa (Qv 25) (Qj 4 (Qn 23) (Qn 24)),Qb 21 true (Qv 26),Qa (Qv 26) (Qf 4 true (Qn 25)),Qb 21 true (Qv 27),Qa (Qv 27) (Qd (Qn 0)),Qb 21 true (Qv 28),Qa (Qv 28) (Qd (Qn 9)),Qb 21 true (Qv 29),Qa (Qv 29) (Qe Qt QI (Qn 28) (Qo (Qp (Qq (Qr Qu 1))))),Qb 21 true (Qv 30),Qa (Qv 30) (Qj 4 (Qn 27) (Qn 29)),Qb 21 true (Qv 31),Qa (Qv 31) (Qf 4 true (Qn 30)),Qb 21 true (Qv 32),Qc (Qv 32) (QF (Qn 22) [(Qn 26),(Qn 31)]),Qb 21 true (Qv 33),Qa (Qv 33) (Qe Qt Qy (Qn 32) (Qo (Qp (Qq (Qr Qu 0))))),Qa (Qv 34) (Qm (Qn 21) (Qn 33) (Qo (Qp (Qq (Qs false)))))]
def Wk0:MC:=.reg true Ydc
def Xxo:=[Qa (Qv 37) (Qd (Qn 0)),Qa (Qv 38) (Qd (Qn 9)),Qa (Qv 39) (Qd (Qn 0)),Qa (Qv 40) (Qd (Qn 9)),Qa (Qv 41) (Qe Qt QI (Qn 40) (Qo (Qp (Qq (Qr Qu 1))))),Qa (Qv 42) (Qd (Qn 0)),Qa (Qv 43) (Qd (Qn 9)),Qa (Qv 44) (Qe Qt QI (Qn 43) (Qo (Qp (Qq (Qr Qu 1))))),Qa (Qv 45) (Qj 4 (Qn 42) (Qn 44)),Qa (Qv 46) (Qf 4 true (Qn 45)),Qa (Qv 47) (Qd (Qn 0)),Qa (Qv 48) (Qd (Qn 9)),Qa (Qv 49) (Qj 4 (Qn 47) (Qn 48)),Qa (Qv 50) (Qf 4 true (Qn 49)),Qa (Qv 51) (Qj 4 (Qn 37) (Qn 38)),Qa none (Ql 4 (Qn 51) (Qn 46)),Qa (Qv 52) (Qj 4 (Qn 39) (Qn 41)),Qa none (Ql 4 (Qn 52) (Qn 50))]
def Ysj:MC:=.reg true Xxo
def Xxp:=[Qa (Qv 35) (Qd (Qn 9)),Qa (Qv 36) (Qe Qt QI (Qn 35) (Qo (Qp (Qq (Qr Qu 1))))),Qa (Qv 9) (Qd (Qn 36))]
def Ysk:MC:=.r0 Xxp
def Ysl:MC:=.seq Wkz (.blk 2 (.loop (.seq (.seq Wk0 (.cond (Qn 34) .skip (Q3 2))) (.seq (.blk 3 Ysj) Ysk))))
def Xxq:=[Qa (Qv 15) (Qd (Qn 8)),Qa (Qv 16) (Qe Qt Qx (Qn 15) (Qo (Qp (Qq (Qr Qu 1))))),Qa (Qv 8) (Qd (Qn 16))]
def Ysm:MC:=.r0 Xxq
def Xxr:MC:=.seq Wkx (.blk 0 (.loop (.seq (.seq Wky (.cond (Qn 14) .skip (Q3 0))) (.seq (.blk 1 Ysl) Ysm))))
attribute [go_sem] Yc9 Yda Ydb Ydc Xxo Xxp Xxq
theorem W6b:KK QP 169 f169 [] Xxr [] 53:=by refine⟨func169,?_,?_,?_,?_⟩<;>kernel_rfl
theorem Wk1:Xaa QP 169=true:=by kernel_rfl
theorem Ysn (h:GT QP gp [] pre R 53 Xxr args):Tri QP gp 169 args pre R:=W6b.t h
def Ydd:=[Qa (Qv 2) (Qd (Qo (Qp (Qq (Qs false)))))]
def Wk2:MC:=.r0 Ydd
def Yde:=[Qa (Qv 3) (Qd (Qn 0)),Qa (Qv 4) (Qd (Qn 0)),Qa (Qv 5) (Qe Qt Q8 (Qn 3) (Qn 4)),Qa (Qv 2) (Qd (Qn 5))]
def Wk3:MC:=.r0 Yde
def Ydf:MC:=.seq Wk2 (.seq Wk3 .ret)
attribute [go_sem] Ydd Yde
theorem W6c:KK QP 171 f171 [] Ydf [(Q0 2)] 6:=by refine⟨func171,?_,?_,?_,?_⟩<;>kernel_rfl
theorem Wk4:Xaa QP 171=true:=by kernel_rfl
theorem Wk5 (h:GI QP gp [(Q0 2)] res 6 Ydf args):Does QP gp 171 args res:=W6c.i Wk4 h
def Ydg:=[Qa (Qv 2) (Qd (Qo (Qp (Qq (Qs false)))))]
def Wk6:MC:=.r0 Ydg
def Ydh:=[Qa (Qv 3) (Qd (Qn 0)),Qa (Qv 4) (Qd (Qn 0)),Qa (Qv 5) (Qe Q4 Q8 (Qn 3) (Qn 4)),Qa (Qv 2) (Qd (Qn 5))]
def Wk7:MC:=.r0 Ydh
def Ydi:MC:=.seq Wk6 (.seq Wk7 .ret)
attribute [go_sem] Ydg Ydh
theorem W6d:KK QP 172 f172 [] Ydi [(Q0 2)] 6:=by refine⟨func172,?_,?_,?_,?_⟩<;>kernel_rfl
theorem Wk8:Xaa QP 172=true:=by kernel_rfl
theorem Wk9 (h:GI QP gp [(Q0 2)] res 6 Ydi args):Does QP gp 172 args res:=W6d.i Wk8 h
def Ydj:=[Qa (Qv 2) (Q2 (Qn 0)),Qa (Qv 4) (Qd (Qo (Qp (Qq (Qs false)))))]
def Wla:MC:=.r0 Ydj
def Ydk:=[Qa (Qv 5) (Qd (Qo (Qp (Qq (Qr Qu 0)))))]
def Wlb:MC:=.r0 Ydk
def Ydl:=[Qa (Qv 8) (Qd (Qn 5)),Qa (Qv 9) (Qg 5 (Qn 2)),Qa (Qv 10) (Qf 1 false (Qn 9)),Qa (Qv 11) (Qk Qt (Qn 10)),Qa (Qv 12) (Qe Qt Qy (Qn 8) (Qn 11))]
def Wlc:MC:=.r0 Ydl
def Ydm:=[Qa (Qv 15) (Qg 5 (Qn 2)),Qa (Qv 16) (Qf 1 false (Qn 15)),Qa (Qv 17) (Qd (Qn 5)),Qa (Qv 18) (Qj 1 (Qn 16) (Qn 17)),Qa (Qv 19) (Qf 1 false (Qn 18)),Qa (Qv 20) (Qe Qt Qy (Qn 19) (Qo (Qp (Qq (Qr Qu 0))))),Qa (Qv 21) (Qd (Qn 20)),Qb 21 false (Qv 22),Qa (Qv 22) (Qg 5 (Qn 2)),Qb 21 false (Qv 23),Qa (Qv 23) (Qf 1 false (Qn 22)),Qb 21 false (Qv 24),Qa (Qv 24) (Qd (Qn 5)),Qb 21 false (Qv 25),Qa (Qv 25) (Qj 1 (Qn 23) (Qn 24)),Qb 21 false (Qv 26),Qa (Qv 26) (Qf 1 false (Qn 25)),Qb 21 false (Qv 27),Qa (Qv 27) (Qd (Qn 1)),Qb 21 false (Qv 28),Qa (Qv 28) (Qe Qt QD (Qn 26) (Qn 27)),Qa (Qv 29) (Qm (Qn 21) (Qo (Qp (Qq (Qs true)))) (Qn 28))]
def Wld:MC:=.r0 Ydm
def Ydn:=[Qa (Qv 4) (Qd (Qo (Qp (Qq (Qs false)))))]
def Wle:MC:=.r0 Ydn
def Xxs:=[Qa (Qv 13) (Qd (Qn 5)),Qa (Qv 14) (Qe Qt Qx (Qn 13) (Qo (Qp (Qq (Qr Qu 1))))),Qa (Qv 5) (Qd (Qn 14))]
def Yso:MC:=.r0 Xxs
def Ysp:MC:=.seq (.seq Wlc (.cond (Qn 12) .skip (Q3 0))) (.seq (.blk 1 (.seq Wld (.cond (Qn 29) (.seq Wle .ret) .skip))) Yso)
def Xxt:=[Qa (Qv 6) (Qd (Qo (Qp (Qq (Qr Qu 0)))))]
def Ysq:MC:=.r0 Xxt
def Xxu:=[Qa (Qv 30) (Qd (Qn 6)),Qa (Qv 31) (Qg 4 (Qn 2)),Qa (Qv 32) (Qf 1 false (Qn 31)),Qa (Qv 33) (Qk Qt (Qn 32)),Qa (Qv 34) (Qe Qt Qy (Qn 30) (Qn 33))]
def Ysr:MC:=.r0 Xxu
def Xxv:=[Qa (Qv 37) (Qg 4 (Qn 2)),Qa (Qv 38) (Qf 1 false (Qn 37)),Qa (Qv 39) (Qd (Qn 6)),Qa (Qv 40) (Qj 3 (Qn 38) (Qn 39)),Qa (Qv 41) (Qf 3 true (Qn 40)),Qa (Qv 42) (Qh 89 [(Qn 41)]),Qa (Qv 43) (QC (Qn 42))]
def Yss:MC:=.r0 Xxv
def Xxw:=[Qa (Qv 4) (Qd (Qo (Qp (Qq (Qs false)))))]
def Yst:MC:=.r0 Xxw
def Xxx:=[Qa (Qv 35) (Qd (Qn 6)),Qa (Qv 36) (Qe Qt Qx (Qn 35) (Qo (Qp (Qq (Qr Qu 1))))),Qa (Qv 6) (Qd (Qn 36))]
def Ysu:MC:=.r0 Xxx
def Ysv:MC:=.seq (.seq Ysr (.cond (Qn 34) .skip (Q3 2))) (.seq (.blk 3 (.seq Yss (.cond (Qn 43) (.seq Yst .ret) .skip))) Ysu)
def Xxy:=[Qa (Qv 44) (Qg 1 (Qn 2)),Qa (Qv 45) (Qf 3 true (Qn 44)),Qa (Qv 46) (Q9 [(Qr Qu 0),(Qr Qu 0),(Q1 (Qw #[]))] []),Qa (Qv 47) (QH false [Qt,Qt,Q4] (Qn 45) (Qn 46)),Qa (Qv 7) (Qd (Qn 47))]
def Ysw:MC:=.r0 Xxy
def Xxz:=[Qa (Qv 48) (Qg 0 (Qn 2)),Qa (Qv 49) (Qf 1 false (Qn 48))]
def Ysx:MC:=.r0 Xxz
def Xx0:=[Qa (Qv 51) (Qe Qt Qz (Qn 49) (Qo (Qp (Qq (Qr Qu 0))))),Qa (Qv 50) (Qd (Qn 51))]
def Ysy:MC:=.r0 Xx0
def Xx1:=[Qa (Qv 52) (Qg 1 (Qn 2)),Qa (Qv 53) (Qf 3 true (Qn 52)),Qa (Qv 54) (Qh 89 [(Qn 53)]),Qa (Qv 55) (Qd (Qn 54)),Qb 55 true (Qv 56),Qa (Qv 56) (Qg 4 (Qn 2)),Qb 55 true (Qv 57),Qa (Qv 57) (Qf 1 false (Qn 56)),Qb 55 true (Qv 58),Qa (Qv 58) (Qk Qt (Qn 57)),Qb 55 true (Qv 59),Qa (Qv 59) (Qe Qt Qz (Qn 58) (Qo (Qp (Qq (Qr Qu 0))))),Qa (Qv 60) (Qm (Qn 55) (Qn 59) (Qo (Qp (Qq (Qs false))))),Qa (Qv 61) (Qd (Qn 60)),Qb 61 true (Qv 62),Qa (Qv 62) (Qg 5 (Qn 2)),Qb 61 true (Qv 63),Qa (Qv 63) (Qf 1 false (Qn 62)),Qb 61 true (Qv 64),Qa (Qv 64) (Qk Qt (Qn 63)),Qb 61 true (Qv 65),Qa (Qv 65) (Qe Qt Qz (Qn 64) (Qo (Qp (Qq (Qr Qu 0))))),Qa (Qv 66) (Qm (Qn 61) (Qn 65) (Qo (Qp (Qq (Qs false))))),Qa (Qv 4) (Qd (Qn 66))]
def Ysz:MC:=.r0 Xx1
def Xx2:=[Qa (Qv 68) (Qe Qt Qz (Qn 49) (Qo (Qp (Qq (Qr Qu 1))))),Qa (Qv 67) (Qd (Qn 68))]
def Ys0:MC:=.r0 Xx2
def Xx3:=[Qa (Qv 69) (Qd (Qn 7)),Qa (Qv 70) (Qd (Qn 69)),Qb 70 true (Qv 71),Qa (Qv 71) (Qg 4 (Qn 2)),Qb 70 true (Qv 72),Qa (Qv 72) (Qf 1 false (Qn 71)),Qb 70 true (Qv 73),Qa (Qv 73) (Qk Qt (Qn 72)),Qb 70 true (Qv 74),Qa (Qv 74) (Qe Qt Qz (Qn 73) (Qo (Qp (Qq (Qr Qu 0))))),Qa (Qv 75) (Qm (Qn 70) (Qn 74) (Qo (Qp (Qq (Qs false))))),Qa (Qv 4) (Qd (Qn 75))]
def Ys1:MC:=.r0 Xx3
def Xx4:=[Qa (Qv 77) (Qe Qt Qz (Qn 49) (Qo (Qp (Qq (Qr Qu 2))))),Qa (Qv 76) (Qd (Qn 77))]
def Ys2:MC:=.r0 Xx4
def Xx5:=[Qa (Qv 78) (Qd (Qn 7)),Qa (Qv 79) (Qd (Qn 78)),Qb 79 true (Qv 80),Qa (Qv 80) (Qg 4 (Qn 2)),Qb 79 true (Qv 81),Qa (Qv 81) (Qf 1 false (Qn 80)),Qb 79 true (Qv 82),Qa (Qv 82) (Qk Qt (Qn 81)),Qb 79 true (Qv 83),Qa (Qv 83) (Qg 5 (Qn 2)),Qb 79 true (Qv 84),Qa (Qv 84) (Qf 1 false (Qn 83)),Qb 79 true (Qv 85),Qa (Qv 85) (Qk Qt (Qn 84)),Qb 79 true (Qv 86),Qa (Qv 86) (Qe Qt Qz (Qn 82) (Qn 85)),Qa (Qv 87) (Qm (Qn 79) (Qn 86) (Qo (Qp (Qq (Qs false))))),Qa (Qv 88) (Qd (Qn 87)),Qb 88 true (Qv 89),Qa (Qv 89) (Qg 4 (Qn 2)),Qb 88 true (Qv 90),Qa (Qv 90) (Qf 1 false (Qn 89)),Qb 88 true (Qv 91),Qa (Qv 91) (Qh 198 [(Qn 90)]),Qb 88 true (Qv 92),Qa (Qv 92) (QC (Qn 91)),Qa (Qv 93) (Qm (Qn 88) (Qn 92) (Qo (Qp (Qq (Qs false))))),Qa (Qv 4) (Qd (Qn 93))]
def Ys3:MC:=.r0 Xx5
def Ys4:MC:=.seq Ys0 (.cond (Qn 67) (.seq Ys1 .ret) (.seq Ys2 (.cond (Qn 76) (.seq Ys3 .ret) .skip)))
def Ys5:MC:=.seq Ysx (.blk 4 (.seq Ysy (.cond (Qn 50) (.seq Ysz .ret) Ys4)))
def Xx6:=[Qa (Qv 4) (Qd (Qo (Qp (Qq (Qs false)))))]
def Ys6:MC:=.r0 Xx6
def Ys7:MC:=.seq (.seq Ysq (.blk 2 (.loop Ysv))) (.seq Ysw (.seq Ys5 (.seq Ys6 .ret)))
def Xx7:MC:=.seq Wla (.seq (.seq Wlb (.blk 0 (.loop Ysp))) Ys7)
attribute [go_sem] Ydj Ydk Ydl Ydm Ydn Xxs Xxt Xxu Xxv Xxw Xxx Xxy Xxz Xx0 Xx1 Xx2 Xx3 Xx4 Xx5 Xx6
theorem W6e:KK QP 177 f177 [2] Xx7 [(Q0 4)] 94:=by refine⟨func177,?_,?_,?_,?_⟩<;>kernel_rfl
theorem Wlf:Xaa QP 177=true:=by kernel_rfl
theorem Wlg (h:GI QP gp [(Q0 4)] res 94 Xx7 args):Does QP gp 177 args res:=W6e.i Wlf h
def Ydo:=[Qa (Qv 2) (Q2 (Qn 0)),Qa (Qv 3) (Q2 (Qn 1)),Qa (Qv 4) (Qd (Qo (Qp (Qq (Qr Qu 0)))))]
def Wlh:MC:=.r0 Ydo
def Ydp:=[Qa (Qv 6) (Qg 0 (Qn 2)),Qa (Qv 7) (Qf 1 false (Qn 6)),Qa (Qv 8) (Qg 0 (Qn 3)),Qa (Qv 9) (Qf 1 false (Qn 8)),Qa (Qv 10) (Qe Qt Qy (Qn 7) (Qn 9)),Qa (Qv 5) (Qd (Qn 10))]
def Wli:MC:=.r0 Ydp
def Ydq:=[Qa (Qv 4) (Qd (Qo (Qp (Qq (Qr Qu (-1))))))]
def Wlj:MC:=.r0 Ydq
def Ydr:=[Qa (Qv 12) (Qg 0 (Qn 2)),Qa (Qv 13) (Qf 1 false (Qn 12)),Qa (Qv 14) (Qg 0 (Qn 3)),Qa (Qv 15) (Qf 1 false (Qn 14)),Qa (Qv 16) (Qe Qt Q7 (Qn 13) (Qn 15)),Qa (Qv 11) (Qd (Qn 16))]
def Wlk:MC:=.r0 Ydr
def Yds:=[Qa (Qv 4) (Qd (Qo (Qp (Qq (Qr Qu 1)))))]
def Wll:MC:=.r0 Yds
def Ydt:=[Qa (Qv 18) (Qg 1 (Qn 2)),Qa (Qv 19) (Qf 1 false (Qn 18)),Qa (Qv 20) (Qg 1 (Qn 3)),Qa (Qv 21) (Qf 1 false (Qn 20)),Qa (Qv 22) (Qe Qt Qy (Qn 19) (Qn 21)),Qa (Qv 17) (Qd (Qn 22))]
def Wlm:MC:=.r0 Ydt
def Xx8:=[Qa (Qv 4) (Qd (Qo (Qp (Qq (Qr Qu (-1))))))]
def Ys8:MC:=.r0 Xx8
def Xx9:=[Qa (Qv 24) (Qg 1 (Qn 2)),Qa (Qv 25) (Qf 1 false (Qn 24)),Qa (Qv 26) (Qg 1 (Qn 3)),Qa (Qv 27) (Qf 1 false (Qn 26)),Qa (Qv 28) (Qe Qt Q7 (Qn 25) (Qn 27)),Qa (Qv 23) (Qd (Qn 28))]
def Ys9:MC:=.r0 Xx9
def Xya:=[Qa (Qv 4) (Qd (Qo (Qp (Qq (Qr Qu 1)))))]
def Yta:MC:=.r0 Xya
def Xyb:=[Qa (Qv 30) (Qg 2 (Qn 2)),Qa (Qv 31) (Qf 1 false (Qn 30)),Qa (Qv 32) (Qg 2 (Qn 3)),Qa (Qv 33) (Qf 1 false (Qn 32)),Qa (Qv 34) (Qe Q4 Qy (Qn 31) (Qn 33)),Qa (Qv 29) (Qd (Qn 34))]
def Ytb:MC:=.r0 Xyb
def Xyc:=[Qa (Qv 4) (Qd (Qo (Qp (Qq (Qr Qu (-1))))))]
def Ytc:MC:=.r0 Xyc
def Xyd:=[Qa (Qv 36) (Qg 2 (Qn 2)),Qa (Qv 37) (Qf 1 false (Qn 36)),Qa (Qv 38) (Qg 2 (Qn 3)),Qa (Qv 39) (Qf 1 false (Qn 38)),Qa (Qv 40) (Qe Q4 Q7 (Qn 37) (Qn 39)),Qa (Qv 35) (Qd (Qn 40))]
def Ytd:MC:=.r0 Xyd
def Xye:=[Qa (Qv 4) (Qd (Qo (Qp (Qq (Qr Qu 1)))))]
def Yte:MC:=.r0 Xye
def Ytf:MC:=.seq Ytb (.cond (Qn 29) (.seq Ytc .ret) (.seq Ytd (.cond (Qn 35) (.seq Yte .ret) .skip)))
def Ytg:MC:=.cond (Qn 17) (.seq Ys8 .ret) (.seq Ys9 (.cond (Qn 23) (.seq Yta .ret) Ytf))
def Yth:MC:=.seq Wlk (.cond (Qn 11) (.seq Wll .ret) (.seq Wlm Ytg))
def Xyf:=[Qa (Qv 4) (Qd (Qo (Qp (Qq (Qr Qu 0)))))]
def Yti:MC:=.r0 Xyf
def Ytj:MC:=.seq (.blk 0 (.seq Wli (.cond (Qn 5) (.seq Wlj .ret) Yth))) (.seq Yti .ret)
def Xyg:MC:=.seq Wlh Ytj
attribute [go_sem] Ydo Ydp Ydq Ydr Yds Ydt Xx8 Xx9 Xya Xyb Xyc Xyd Xye Xyf
theorem W6f:KK QP 178 f178 [2,3] Xyg [(Q0 4)] 41:=by refine⟨func178,?_,?_,?_,?_⟩<;>kernel_rfl
theorem Wln:Xaa QP 178=true:=by kernel_rfl
theorem Wlo (h:GI QP gp [(Q0 4)] res 41 Xyg args):Does QP gp 178 args res:=W6f.i Wln h
def Ydu:=[Qa (Qv 4) (Qd (Qo (Qp (Qq (Qs false)))))]
def Wlp:MC:=.r0 Ydu
def Ydv:=[Qa (Qv 5) (Qd (Qn 0)),Qa (Qv 6) (Qd (Qn 1)),Qa (Qv 7) (Qh 203 [(Qn 5),(Qn 6)]),Qa (Qv 8) (Qe Qt QD (Qn 7) (Qo (Qp (Qq (Qr Qu 0))))),Qa (Qv 4) (Qd (Qn 8))]
def Wlq:MC:=.r0 Ydv
def Ydw:MC:=.seq Wlp (.seq Wlq .ret)
attribute [go_sem] Ydu Ydv
theorem W6g:KK QP 187 f187 [] Ydw [(Q0 4)] 9:=by refine⟨func187,?_,?_,?_,?_⟩<;>kernel_rfl
theorem Wlr:Xaa QP 187=true:=by kernel_rfl
theorem Wls (h:GI QP gp [(Q0 4)] res 9 Ydw args):Does QP gp 187 args res:=W6g.i Wlr h
def Ydx:=[Qa (Qv 3) (Qd (Qo (Qp (Qq (Qs false)))))]
def Wlt:MC:=.r0 Ydx
def Ydy:=[Qa (Qv 4) (Qd (Qn 0)),Qa (Qv 5) (Qe Qt Qy (Qn 4) (Qo (Qp (Qq (Qr Qu 0))))),Qa (Qv 6) (Qd (Qn 5)),Qb 6 false (Qv 7),Qa (Qv 7) (Qd (Qn 0)),Qb 6 false (Qv 8),Qa (Qv 8) (Qg 6 (Qn 1)),Qb 6 false (Qv 9),Qa (Qv 9) (Qf 1 false (Qn 8)),Qb 6 false (Qv 10),Qa (Qv 10) (Qe Qt QD (Qn 7) (Qn 9)),Qa (Qv 11) (Qm (Qn 6) (Qo (Qp (Qq (Qs true)))) (Qn 10)),Qa (Qv 3) (Qd (Qn 11))]
def Wlu:MC:=.r0 Ydy
def Ydz:MC:=.seq Wlt (.seq Wlu .ret)
attribute [go_sem] Ydx Ydy
theorem W6h:KK QP 188 f188 [] Ydz [(Q0 3)] 12:=by refine⟨func188,?_,?_,?_,?_⟩<;>kernel_rfl
theorem Wlv:Xaa QP 188=true:=by kernel_rfl
theorem Wlw (h:GI QP gp [(Q0 3)] res 12 Ydz args):Does QP gp 188 args res:=W6h.i Wlv h
def Yd0:=[Qa (Qv 4) (Qd (Qo (Qp (Qq (Qs false)))))]
def Wlx:MC:=.r0 Yd0
def Yd1:=[Qa (Qv 5) (Qd (Qn 0)),Qa (Qv 6) (Qd (Qn 1)),Qa (Qv 7) (Qh 204 [(Qn 5),(Qn 6)]),Qa (Qv 8) (Qe Qt QD (Qn 7) (Qo (Qp (Qq (Qr Qu 0))))),Qa (Qv 4) (Qd (Qn 8))]
def Wly:MC:=.r0 Yd1
def Yd2:MC:=.seq Wlx (.seq Wly .ret)
attribute [go_sem] Yd0 Yd1
theorem W6i:KK QP 189 f189 [] Yd2 [(Q0 4)] 9:=by refine⟨func189,?_,?_,?_,?_⟩<;>kernel_rfl
theorem Wlz:Xaa QP 189=true:=by kernel_rfl
theorem Wl0 (h:GI QP gp [(Q0 4)] res 9 Yd2 args):Does QP gp 189 args res:=W6i.i Wlz h
def Yd3:=[Qa (Qv 1) (Q2 (Qn 0)),Qa (Qv 2) (Qd (Qo (Qp (Qq (Qs false)))))]
def Wl1:MC:=.r0 Yd3
def Yd4:=[Qa (Qv 3) (Qf 3 true (Qn 1)),Qa (Qv 4) (Qh 35 [(Qn 3)]),Qa (Qv 5) (QC (Qn 4)),Qa (Qv 2) (Qd (Qn 5))]
def Wl2:MC:=.r0 Yd4
def Yd5:MC:=.seq Wl1 (.seq Wl2 .ret)
attribute [go_sem] Yd3 Yd4
theorem W6j:KK QP 190 f190 [1] Yd5 [(Q0 2)] 6:=by refine⟨func190,?_,?_,?_,?_⟩<;>kernel_rfl
theorem Wl3:Xaa QP 190=true:=by kernel_rfl
theorem Wl4 (h:GI QP gp [(Q0 2)] res 6 Yd5 args):Does QP gp 190 args res:=W6j.i Wl3 h
def Yd6:=[Qa (Qv 4) (Qd (Qo (Qp (Qq (Qs false)))))]
def Wl5:MC:=.r0 Yd6
def Yd7:=[Qa (Qv 5) (Qd (Qn 0)),Qa (Qv 6) (Qd (Qn 1)),Qa (Qv 7) (Qh 205 [(Qn 5),(Qn 6)]),Qa (Qv 8) (Qe Qt QD (Qn 7) (Qo (Qp (Qq (Qr Qu 0))))),Qa (Qv 4) (Qd (Qn 8))]
def Wl6:MC:=.r0 Yd7
def Yd8:MC:=.seq Wl5 (.seq Wl6 .ret)
attribute [go_sem] Yd6 Yd7
theorem W6k:KK QP 191 f191 [] Yd8 [(Q0 4)] 9:=by refine⟨func191,?_,?_,?_,?_⟩<;>kernel_rfl
theorem Wl7:Xaa QP 191=true:=by kernel_rfl
theorem Wl8 (h:GI QP gp [(Q0 4)] res 9 Yd8 args):Does QP gp 191 args res:=W6k.i Wl7 h
def Yd9:=[Qa (Qv 2) (Qd (Qo (Qp (Qq (Qs false)))))]
def Wl9:MC:=.r0 Yd9
def Yea:=[Qa (Qv 3) (Q5 [(Qr Qu 0)]),Qa none (Ql 1 (Qn 3) (Qo (Qp (Qq (Qr Qu 0)))))]
def Wma:MC:=.r0 Yea
def Yeb:=[Qa (Qv 4) (Qd (Qn 0)),Qa (Qv 5) (Qh 206 [(Qn 4)])]
def Wmb:MC:=.r0 Yeb
def Yec:=[Qa (Qv 7) (Qf 1 false (Qn 3)),Qa (Qv 8) (Qe Qt Qx (Qn 7) (Qo (Qp (Qq (Qr Qu 1))))),Qa none (Ql 1 (Qn 3) (Qn 8))]
def Wmc:MC:=.r0 Yec
def Wmd:MC:=.rf (Qn 5) [6] .skip (.blk 1 Wmc)
def Yed:=[Qa (Qv 9) (Qf 1 false (Qn 3)),Qa (Qv 10) (Qd (Qn 0)),Qa (Qv 11) (Qk Qt (Qn 10)),Qa (Qv 12) (Qe Qt Qy (Qn 9) (Qn 11)),Qa (Qv 2) (Qd (Qn 12))]
def Wme:MC:=.r0 Yed
def Ytk:MC:=.seq Wma (.seq (.seq Wmb (.blk 0 Wmd)) (.seq Wme .ret))
def Xyh:MC:=.seq Wl9 Ytk
attribute [go_sem] Yd9 Yea Yeb Yec Yed
theorem W6l:KK QP 192 f192 [] Xyh [(Q0 2)] 13:=by refine⟨func192,?_,?_,?_,?_⟩<;>kernel_rfl
theorem Wmf:Xaa QP 192=true:=by kernel_rfl
theorem Wmg (h:GI QP gp [(Q0 2)] res 13 Xyh args):Does QP gp 192 args res:=W6l.i Wmf h
def Yee:=[Qa (Qv 2) (Qd (Qo (Qp (Qq (Qs false)))))]
def Wmh:MC:=.r0 Yee
def Yef:=[Qa (Qv 3) (Qd (Qo (Qp (Qq (Qr Qu 0)))))]
def Wmi:MC:=.r0 Yef
def Yeg:=[Qa (Qv 5) (Qd (Qn 3)),Qa (Qv 6) (Qd (Qn 0)),Qa (Qv 7) (Qk Qt (Qn 6)),Qa (Qv 8) (Qe Qt Qy (Qn 5) (Qn 7))]
def Wmj:MC:=.r0 Yeg
def Yeh:=[Qa (Qv 4) (Qd (Qo (Qp (Qq (Qr Qu 0)))))]
def Wmk:MC:=.r0 Yeh
def Yei:=[Qa (Qv 11) (Qd (Qn 4)),Qa (Qv 12) (Qd (Qn 3)),Qa (Qv 13) (Qe Qt Qy (Qn 11) (Qn 12))]
def Wml:MC:=.r0 Yei
def Xyi:=[Qa (Qv 16) (Qd (Qn 0)),Qa (Qv 17) (Qd (Qn 3)),Qa (Qv 18) (Qj 3 (Qn 16) (Qn 17)),Qa (Qv 19) (Qf 3 true (Qn 18)),Qa (Qv 20) (Qd (Qn 0)),Qa (Qv 21) (Qd (Qn 4)),Qa (Qv 22) (Qj 3 (Qn 20) (Qn 21)),Qa (Qv 23) (Qf 3 true (Qn 22)),Qa (Qv 24) (QH false [Qt,Qt,Q4] (Qn 19) (Qn 23))]
def Ytl:MC:=.reg true Xyi
def Xyj:=[Qa (Qv 2) (Qd (Qo (Qp (Qq (Qs true)))))]
def Ytm:MC:=.r0 Xyj
def Xyk:=[Qa (Qv 14) (Qd (Qn 4)),Qa (Qv 15) (Qe Qt Qx (Qn 14) (Qo (Qp (Qq (Qr Qu 1))))),Qa (Qv 4) (Qd (Qn 15))]
def Ytn:MC:=.r0 Xyk
def Yto:MC:=.seq (.seq Wml (.cond (Qn 13) .skip (Q3 2))) (.seq (.blk 3 (.seq Ytl (.cond (Qn 24) (.seq Ytm .ret) .skip))) Ytn)
def Xyl:=[Qa (Qv 9) (Qd (Qn 3)),Qa (Qv 10) (Qe Qt Qx (Qn 9) (Qo (Qp (Qq (Qr Qu 1))))),Qa (Qv 3) (Qd (Qn 10))]
def Ytp:MC:=.r0 Xyl
def Ytq:MC:=.seq (.seq Wmj (.cond (Qn 8) .skip (Q3 0))) (.seq (.blk 1 (.seq Wmk (.blk 2 (.loop Yto)))) Ytp)
def Xym:=[Qa (Qv 2) (Qd (Qo (Qp (Qq (Qs false)))))]
def Ytr:MC:=.r0 Xym
def Xyn:MC:=.seq Wmh (.seq (.seq Wmi (.blk 0 (.loop Ytq))) (.seq Ytr .ret))
attribute [go_sem] Yee Yef Yeg Yeh Yei Xyi Xyj Xyk Xyl Xym
theorem W6m:KK QP 198 f198 [] Xyn [(Q0 2)] 25:=by refine⟨func198,?_,?_,?_,?_⟩<;>kernel_rfl
theorem Wmm:Xaa QP 198=true:=by kernel_rfl
theorem Wmn (h:GI QP gp [(Q0 2)] res 25 Xyn args):Does QP gp 198 args res:=W6m.i Wmm h
def Yej:=[Qa (Qv 4) (Qd (Qo (Qp (Qq (Qr Qu 0)))))]
def Wmo:MC:=.r0 Yej
def Yek:=[Qa (Qv 6) (Qd (Qn 0)),Qa (Qv 7) (Qk Qt (Qn 6)),Qa (Qv 8) (Qd (Qo (Qp (Qq (Qr Qu 0)))))]
def Wmp:MC:=.r0 Yek
def Yel:=[Qa (Qv 9) (Qe Qt Qy (Qn 8) (Qn 7))]
def Wmq:MC:=.r0 Yel
def Yem:=[Qa (Qv 10) (Qd (Qn 8)),Qa (Qv 5) (Qd (Qn 10))]
def Wmr:MC:=.r0 Yem
def Yen:=[Qa (Qv 11) (Qd (Qn 1)),Qa (Qv 12) (Qd (Qn 0)),Qa (Qv 13) (Qd (Qn 5)),Qa (Qv 14) (Qj 1 (Qn 12) (Qn 13)),Qa (Qv 15) (Qf 1 false (Qn 14)),Qa (Qv 16) (Qe Leaf.b Qz (Qn 11) (Qn 15))]
def Wms:MC:=.r0 Yen
def Yeo:=[Qa (Qv 17) (Qd (Qn 5)),Qa (Qv 4) (Qd (Qn 17))]
def Wmt:MC:=.r0 Yeo
def Xyo:=[Qa (Qv 18) (Qe Qt Qx (Qn 8) (Qo (Qp (Qq (Qr Qu 1))))),Qa (Qv 8) (Qd (Qn 18))]
def Yts:MC:=.r0 Xyo
def Ytt:MC:=.seq (.blk 1 (.seq Wmr (.seq Wms (.cond (Qn 16) (.seq Wmt .ret) .skip)))) Yts
def Xyp:=[Qa (Qv 4) (Qd (Qo (Qp (Qq (Qr Qu (-1))))))]
def Ytu:MC:=.r0 Xyp
def Ytv:MC:=.seq (.seq Wmp (.blk 0 (.loop (.seq Wmq (.seq (.cond (Qn 9) .skip (Q3 0)) Ytt))))) (.seq Ytu .ret)
def Xyq:MC:=.seq Wmo Ytv
attribute [go_sem] Yej Yek Yel Yem Yen Yeo Xyo Xyp
theorem W6n:KK QP 203 f203 [] Xyq [(Q0 4)] 19:=by refine⟨func203,?_,?_,?_,?_⟩<;>kernel_rfl
theorem Wmu:Xaa QP 203=true:=by kernel_rfl
theorem Wmv (h:GI QP gp [(Q0 4)] res 19 Xyq args):Does QP gp 203 args res:=W6n.i Wmu h
def Yep:=[Qa (Qv 4) (Qd (Qo (Qp (Qq (Qr Qu 0)))))]
def Wmw:MC:=.r0 Yep
def Yeq:=[Qa (Qv 6) (Qd (Qn 0)),Qa (Qv 7) (Qk Qt (Qn 6)),Qa (Qv 8) (Qd (Qo (Qp (Qq (Qr Qu 0)))))]
def Wmx:MC:=.r0 Yeq
def Yer:=[Qa (Qv 9) (Qe Qt Qy (Qn 8) (Qn 7))]
def Wmy:MC:=.r0 Yer
def Yes:=[Qa (Qv 10) (Qd (Qn 8)),Qa (Qv 5) (Qd (Qn 10))]
def Wmz:MC:=.r0 Yes
def Yet:=[Qa (Qv 11) (Qd (Qn 1)),Qa (Qv 12) (Qd (Qn 0)),Qa (Qv 13) (Qd (Qn 5)),Qa (Qv 14) (Qj 1 (Qn 12) (Qn 13)),Qa (Qv 15) (Qf 1 false (Qn 14)),Qa (Qv 16) (QF (Qn 11) [(Qn 15)])]
def Wm0:MC:=.r0 Yet
def Yeu:=[Qa (Qv 17) (Qd (Qn 5)),Qa (Qv 4) (Qd (Qn 17))]
def Wm1:MC:=.r0 Yeu
def Xyr:=[Qa (Qv 18) (Qe Qt Qx (Qn 8) (Qo (Qp (Qq (Qr Qu 1))))),Qa (Qv 8) (Qd (Qn 18))]
def Ytw:MC:=.r0 Xyr
def Ytx:MC:=.seq (.blk 1 (.seq Wmz (.seq Wm0 (.cond (Qn 16) (.seq Wm1 .ret) .skip)))) Ytw
def Xys:=[Qa (Qv 4) (Qd (Qo (Qp (Qq (Qr Qu (-1))))))]
def Yty:MC:=.r0 Xys
def Ytz:MC:=.seq (.seq Wmx (.blk 0 (.loop (.seq Wmy (.seq (.cond (Qn 9) .skip (Q3 0)) Ytx))))) (.seq Yty .ret)
def Xyt:MC:=.seq Wmw Ytz
attribute [go_sem] Yep Yeq Yer Yes Yet Yeu Xyr Xys
theorem W6o:KK QP 204 f204 [] Xyt [(Q0 4)] 19:=by refine⟨func204,?_,?_,?_,?_⟩<;>kernel_rfl
theorem Wm2:Xaa QP 204=true:=by kernel_rfl
theorem Wm3 (h:GI QP gp [(Q0 4)] res 19 Xyt args):Does QP gp 204 args res:=W6o.i Wm2 h
def Yev:=[Qa (Qv 4) (Qd (Qo (Qp (Qq (Qr Qu 0)))))]
def Wm4:MC:=.r0 Yev
def Yew:=[Qa (Qv 6) (Qd (Qn 0)),Qa (Qv 7) (Qk Qt (Qn 6)),Qa (Qv 8) (Qd (Qo (Qp (Qq (Qr Qu 0)))))]
def Wm5:MC:=.r0 Yew
def Yex:=[Qa (Qv 9) (Qe Qt Qy (Qn 8) (Qn 7))]
def Wm6:MC:=.r0 Yex
def Yey:=[Qa (Qv 10) (Qd (Qn 8)),Qa (Qv 5) (Qd (Qn 10))]
def Wm7:MC:=.r0 Yey
def Yez:=[Qa (Qv 11) (Qd (Qn 1)),Qa (Qv 12) (Qd (Qn 0)),Qa (Qv 13) (Qd (Qn 5)),Qa (Qv 14) (Qj 3 (Qn 12) (Qn 13)),Qa (Qv 15) (Qf 3 true (Qn 14)),Qa (Qv 16) (QF (Qn 11) [(Qn 15)])]
def Wm8:MC:=.r0 Yez
def Ye0:=[Qa (Qv 17) (Qd (Qn 5)),Qa (Qv 4) (Qd (Qn 17))]
def Wm9:MC:=.r0 Ye0
def Xyu:=[Qa (Qv 18) (Qe Qt Qx (Qn 8) (Qo (Qp (Qq (Qr Qu 1))))),Qa (Qv 8) (Qd (Qn 18))]
def Yt0:MC:=.r0 Xyu
def Yt1:MC:=.seq (.blk 1 (.seq Wm7 (.seq Wm8 (.cond (Qn 16) (.seq Wm9 .ret) .skip)))) Yt0
def Xyv:=[Qa (Qv 4) (Qd (Qo (Qp (Qq (Qr Qu (-1))))))]
def Yt2:MC:=.r0 Xyv
def Yt3:MC:=.seq (.seq Wm5 (.blk 0 (.loop (.seq Wm6 (.seq (.cond (Qn 9) .skip (Q3 0)) Yt1))))) (.seq Yt2 .ret)
def Xyw:MC:=.seq Wm4 Yt3
attribute [go_sem] Yev Yew Yex Yey Yez Ye0 Xyu Xyv
theorem W6p:KK QP 205 f205 [] Xyw [(Q0 4)] 19:=by refine⟨func205,?_,?_,?_,?_⟩<;>kernel_rfl
theorem Wna:Xaa QP 205=true:=by kernel_rfl
theorem Wnb (h:GI QP gp [(Q0 4)] res 19 Xyw args):Does QP gp 205 args res:=W6p.i Wna h
def Ye1:=[Qa (Qv 1) (Q2 (Qn 0)),Qa (Qv 2) (Qd (Qo (Qp (Qq QJ))))]
def Wnc:MC:=.r0 Ye1
def Ye2:=[Qa (Qv 3) (QT (Go.Fn.func 208) [(Qn 1)]),Qa (Qv 2) (Qd (Qn 3))]
def Wnd:MC:=.r0 Ye2
def Ye3:MC:=.seq Wnc (.seq Wnd .ret)
attribute [go_sem] Ye1 Ye2
theorem W6q:KK QP 206 f206 [1] Ye3 [(Q0 2)] 4:=by refine⟨func206,?_,?_,?_,?_⟩<;>kernel_rfl
theorem Wne:Xaa QP 206=true:=by kernel_rfl
theorem Wnf (h:GI QP gp [(Q0 2)] res 4 Ye3 args):Does QP gp 206 args res:=W6q.i Wne h
def Ye4:=[Qa (Qv 6) QY,Qa (Qv 3) (Qd (Qn 6))]
def Wng:MC:=.r0 Ye4
def Ye5:=[Qa (Qv 7) (Qf 1 false (Qn 1)),Qa (Qv 8) (Qk Qt (Qn 7)),Qa (Qv 9) (Qd (Qo (Qp (Qq (Qr Qu 0)))))]
def Wnh:MC:=.r0 Ye5
def Ye6:=[Qa (Qv 10) (Qe Qt Qy (Qn 9) (Qn 8))]
def Wni:MC:=.r0 Ye6
def Ye7:=[Qa (Qv 11) (Qj 3 (Qn 7) (Qn 9)),Qa (Qv 12) (Qf 3 true (Qn 11)),Qa (Qv 5) (Q5 [(Qr Qu 0),(Qr Qu 0),(Q1 (Qw #[]))]),Qa none (Ql 3 (Qn 5) (Qn 12))]
def Wnj:MC:=.r0 Ye7
def Ye8:=[Qa (Qv 13) (Qd (Qn 3)),Qa (Qv 14) (Qf 3 true (Qn 5)),Qa (Qv 15) (MOp.lkp false (Qp (Qq (Qs false))) true [Qt,Qt,Q4] (Qn 13) (Qn 14)),Qa (Qv 16) (Qd (Qn 15)),Qb 16 false (Qv 17),Qa (Qv 17) (Qd (Qn 0)),Qb 16 false (Qv 18),Qa (Qv 18) (Qf 3 true (Qn 5)),Qb 16 false (Qv 19),Qa (Qv 19) (QF (Qn 17) [(Qn 18)]),Qb 16 false (Qv 20),Qa (Qv 20) (QC (Qn 19)),Qa (Qv 21) (Qm (Qn 16) (Qo (Qp (Qq (Qs true)))) (Qn 20))]
def Wnk:MC:=.r0 Ye8
def Xyx:=[Qa (Qv 22) (Qd (Qn 3)),Qa (Qv 23) (Qf 3 true (Qn 5)),Qa none (QN true [Qt,Qt,Q4] (Qn 22) (Qn 23) (Qo (Qp (Qq (Qs true)))))]
def Yt4:MC:=.r0 Xyx
def Xyy:=[Qa (Qv 24) (Qe Qt Qx (Qn 9) (Qo (Qp (Qq (Qr Qu 1))))),Qa (Qv 9) (Qd (Qn 24))]
def Yt5:MC:=.r0 Xyy
def Yt6:MC:=.seq (.blk 1 (.seq Wnj (.seq (.seq Wnk (.cond (Qn 21) (Q3 0) .skip)) Yt4))) Yt5
def Yt7:MC:=.seq Wng (.seq .skip (.seq Wnh (.blk 0 (.loop (.seq Wni (.seq (.cond (Qn 10) .skip (Q3 0)) Yt6))))))
def Xyz:MC:=.scope Yt7
attribute [go_sem] Ye4 Ye5 Ye6 Ye7 Ye8 Xyx Xyy
theorem W6r:KK QP 208 f208 [] Xyz [] 25:=by refine⟨func208,?_,?_,?_,?_⟩<;>kernel_rfl
theorem Wnl:Xaa QP 208=true:=by kernel_rfl
theorem Yt8 (h:GT QP gp [] pre R 25 Xyz args):Tri QP gp 208 args pre R:=W6r.t h
def Ye9:=[Qa (Qv 2) (Qd (Qo (Qp (Qq (Q1 (Qw #[]))))))]
def Wnm:MC:=.r0 Ye9
def Yfa:=[Qa (Qv 3) (Qd (Qn 0)),Qa (Qv 4) (Qe Q4 Qx (Qo (Qp (Qq (Q1 (Qw #[32]))))) (Qn 3)),Qa (Qv 2) (Qd (Qn 4))]
def Wnn:MC:=.r0 Yfa
def Yfb:MC:=.seq Wnm (.seq Wnn .ret)
attribute [go_sem] Ye9 Yfa
theorem W6s:KK QP 228 f228 [] Yfb [(Q0 2)] 5:=by refine⟨func228,?_,?_,?_,?_⟩<;>kernel_rfl
theorem Wno:Xaa QP 228=true:=by kernel_rfl
theorem Wnp (h:GI QP gp [(Q0 2)] res 5 Yfb args):Does QP gp 228 args res:=W6s.i Wno h
def Yfc:=[Qa (Qv 1) (Q2 (Qn 0)),Qa (Qv 2) (Qd (Qo (Qp (Qq (Q1 (Qw #[]))))))]
def Wnq:MC:=.r0 Yfc
def Yfd:=[Qa (Qv 3) (Qg 1 (Qn 1)),Qa (Qv 4) (Qf 1 false (Qn 3)),Qa (Qv 5) (Qe Q4 Qz (Qn 4) (Qo (Qp (Qq (Q1 (Qw #[]))))))]
def Wnr:MC:=.r0 Yfd
def Yfe:=[Qa (Qv 2) (Qd (Qo (Qp (Qq (Q1 (Qw #[]))))))]
def Wns:MC:=.r0 Yfe
def Yff:=[Qa (Qv 6) (Qg 1 (Qn 1)),Qa (Qv 7) (Qf 1 false (Qn 6)),Qa (Qv 8) (Qe Q4 Qx (Qo (Qp (Qq (Q1 (Qw #[32,38]))))) (Qn 7)),Qa (Qv 2) (Qd (Qn 8))]
def Wnt:MC:=.r0 Yff
def Xy0:MC:=.seq Wnq (.seq (.seq Wnr (.cond (Qn 5) (.seq Wns .ret) .skip)) (.seq Wnt .ret))
attribute [go_sem] Yfc Yfd Yfe Yff
theorem W6t:KK QP 229 f229 [1] Xy0 [(Q0 2)] 9:=by refine⟨func229,?_,?_,?_,?_⟩<;>kernel_rfl
theorem Wnu:Xaa QP 229=true:=by kernel_rfl
theorem Wnv (h:GI QP gp [(Q0 2)] res 9 Xy0 args):Does QP gp 229 args res:=W6t.i Wnu h
end Go.Fw.L07
