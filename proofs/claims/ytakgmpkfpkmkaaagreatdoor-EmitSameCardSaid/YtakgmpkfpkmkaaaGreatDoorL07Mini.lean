/- Small codes. -/
import Derived.Test.YtakgmpkfpkmkaaaGreatDoorFd
import Derived.Test.YtakgmpkfpkmkaaaGreatDoorProg
set_option linter.all false
namespace Go.Fw.L07
open Go Go.Fw
open Go.Proofs.Tryz renaming prog->QP
open Go.Proofs.Tryz (f108 f109 f11 f110 f113 f114 f115 f116 f120 f121 f122 f125 f13 f141 f142 f143 f144 f145 f146 f147 f148 f15 f166 f167 f168 f169 f171 f172 f18 f187 f188 f189 f190 f191 f192 f203 f204 f205 f206 f208 f228 f229 f23 f24 f26 f34 f35 f43 f44 f45 f46 f47 f50 f51 f54 f56 f57 f63 f71 f72 f74 f75 f76 f8 f82 f83 f84 f85 f9 func108 func109 func11 func110 func113 func114 func115 func116 func120 func121 func122 func125 func13 func141 func142 func143 func144 func145 func146 func147 func148 func15 func166 func167 func168 func169 func171 func172 func18 func187 func188 func189 func190 func191 func192 func203 func204 func205 func206 func208 func228 func229 func23 func24 func26 func34 func35 func43 func44 func45 func46 func47 func50 func51 func54 func56 func57 func63 func71 func72 func74 func75 func76 func8 func82 func83 func84 func85 func9)
open Go.Fw.MO renaming op->Qa,chk->Qb,opx->Qc
open Go.Fw.MOp renaming mv->Qd,bin->Qe,load->Qf,fad->Qg,call->Qh,ext->Qi,iad->Qj,len->Qk,store->Ql,pick->Qm,ibox->Q2,alloc->Q3,build->Q4,bslice->Q5,not->QB,callv->QC,nck->QF,app->QG,mkI->QJ,eqs->QK,mupd->QL,mkF->QO,mkMv->QR,mkM->QT,tas->QU,lkp->QV,slcS->QX,box->QZ
open Go.Fw.Opd renaming t->Qn,c->Qo
open Go.Fw.V renaming one->Qp
open Go.Fw.A renaming d->Qq
open Go.Fw.D renaming int->Qr,bool->Qs,str->Q1,sl->Q9,nilF->QH,fn->QS,nilI->QW
open Go.Fw.Leaf renaming i->Qt,s->Q7
open Go.IntKind renaming i64->Qu,i32->QY
open Option renaming some->Qv
open _root_.ByteArray renaming mk->Qw
open Go.BinOp renaming add->Qx,eql->Qz,lss->Q0,neq->Q8,gtr->QA,geq->QD,sub->QI,leq->QM,mul->QN
open Go.Fw.RV renaming t->Qy,cell->QE
open Go.Fw.MC renaming exit->Q6
variable {gp:Heap} {args:List V} {res:V} {pre:List Ch} {R:V->List Ch->Prop}
def Wh9:=[Qa (Qv 2) (Q2 (Qn 0)),Qa (Qv 3) (Q2 (Qn 1)),Qa (Qv 4) (Qd (Qo (Qp (Qq (Qs false)))))]
def Wwu:MC:=.r0 Wh9
def Wia:=[Qa (Qv 14) (Qh 9 []),Qa (Qv 5) (Qd (Qn 14))]
def Wwv:MC:=.r0 Wia
def Wib:=[Qa (Qv 16) (Qf 2 true (Qn 2)),Qa (Qv 17) (Qh 22 [(Qn 16),(Qo (Qp (Qq (Qr Qu 30))))]),Qa (Qv 18) (Qh 21 [(Qn 17)]),Qa (Qv 15) (Qd (Qn 18)),Qa (Qv 19) (Qi (Qn 15) 0),Qa (Qv 20) (Qi (Qn 15) 1),Qa (Qv 6) (Q3 [(Qr Qu 0),(Q9 [])]),Qa none (Ql 2 (Qn 6) (Qn 19)),Qa (Qv 7) (Qd (Qn 20))]
def Www:MC:=.r0 Wib
def Wic:=[Qa (Qv 22) (Qf 2 true (Qn 3)),Qa (Qv 23) (Qh 22 [(Qn 22),(Qo (Qp (Qq (Qr Qu 30))))]),Qa (Qv 24) (Qh 21 [(Qn 23)]),Qa (Qv 21) (Qd (Qn 24)),Qa (Qv 25) (Qi (Qn 21) 0),Qa (Qv 26) (Qi (Qn 21) 1),Qa (Qv 8) (Q3 [(Qr Qu 0),(Q9 [])]),Qa none (Ql 2 (Qn 8) (Qn 25)),Qa (Qv 9) (Qd (Qn 26))]
def Wwx:MC:=.r0 Wic
def Wid:=[Qa (Qv 28) (Qf 2 true (Qn 6)),Qa (Qv 29) (Qh 11 [(Qn 28)]),Qa (Qv 27) (Qd (Qn 29)),Qa (Qv 30) (Qi (Qn 27) 0),Qa (Qv 31) (Qi (Qn 27) 1),Qa (Qv 10) (Qd (Qn 30)),Qa (Qv 11) (Qd (Qn 31))]
def Wwy:MC:=.r0 Wid
def Wie:=[Qa (Qv 33) (Qf 2 true (Qn 8)),Qa (Qv 34) (Qh 11 [(Qn 33)]),Qa (Qv 32) (Qd (Qn 34)),Qa (Qv 35) (Qi (Qn 32) 0),Qa (Qv 36) (Qi (Qn 32) 1),Qa (Qv 12) (Qd (Qn 35)),Qa (Qv 13) (Qd (Qn 36))]
def Wwz:MC:=.r0 Wie
def Wif:=[Qa (Qv 37) (Qd (Qn 7)),Qa (Qv 38) (Qe Qt Q8 (Qn 37) (Qo (Qp (Qq (Qr Qu 0))))),Qa (Qv 39) (Qd (Qn 38)),Qb 39 false (Qv 40),Qa (Qv 40) (Qd (Qn 9)),Qb 39 false (Qv 41),Qa (Qv 41) (Qe Qt Q8 (Qn 40) (Qo (Qp (Qq (Qr Qu 0))))),Qa (Qv 42) (Qm (Qn 39) (Qo (Qp (Qq (Qs true)))) (Qn 41)),Qa (Qv 43) (Qd (Qn 42)),Qb 43 false (Qv 44),Qa (Qv 44) (Qd (Qn 11)),Qb 43 false (Qv 45),Qa (Qv 45) (Qe Qt Q8 (Qn 44) (Qo (Qp (Qq (Qr Qu 0))))),Qa (Qv 46) (Qm (Qn 43) (Qo (Qp (Qq (Qs true)))) (Qn 45)),Qa (Qv 47) (Qd (Qn 46)),Qb 47 false (Qv 48),Qa (Qv 48) (Qd (Qn 13)),Qb 47 false (Qv 49),Qa (Qv 49) (Qe Qt Q8 (Qn 48) (Qo (Qp (Qq (Qr Qu 0))))),Qa (Qv 50) (Qm (Qn 47) (Qo (Qp (Qq (Qs true)))) (Qn 49))]
def Ww0:MC:=.r0 Wif
def Wig:=[Qa (Qv 51) (Qd (Qn 5)),Qa (Qv 52) (Qd (Qn 51)),Qb 52 true (Qv 53),Qa (Qv 53) (Qd (Qn 11)),Qb 52 true (Qv 54),Qa (Qv 54) (Qe Qt Qz (Qn 53) (Qo (Qp (Qq (Qr Qu 0))))),Qb 52 true (Qv 55),Qa (Qv 55) (Qd (Qn 54)),Qb 55 false (Qv 56),Qa (Qv 56) (Qd (Qn 10)),Qb 55 false (Qv 57),Qa (Qv 57) (Qe Q7 Qz (Qn 56) (Qo (Qp (Qq (Q1 (Qw #[])))))),Qb 52 true (Qv 58),Qa (Qv 58) (Qm (Qn 55) (Qo (Qp (Qq (Qs true)))) (Qn 57)),Qa (Qv 59) (Qm (Qn 52) (Qn 58) (Qo (Qp (Qq (Qs false))))),Qa (Qv 60) (Qd (Qn 59)),Qb 60 true (Qv 61),Qa (Qv 61) (Qd (Qn 13)),Qb 60 true (Qv 62),Qa (Qv 62) (Qe Qt Qz (Qn 61) (Qo (Qp (Qq (Qr Qu 0))))),Qb 60 true (Qv 63),Qa (Qv 63) (Qd (Qn 62)),Qb 63 false (Qv 64),Qa (Qv 64) (Qd (Qn 12)),Qb 63 false (Qv 65),Qa (Qv 65) (Qe Q7 Qz (Qn 64) (Qo (Qp (Qq (Q1 (Qw #[])))))),Qb 60 true (Qv 66),Qa (Qv 66) (Qm (Qn 63) (Qo (Qp (Qq (Qs true)))) (Qn 65)),Qa (Qv 67) (Qm (Qn 60) (Qn 66) (Qo (Qp (Qq (Qs false))))),Qa (Qv 4) (Qd (Qn 67))]
def Ww1:MC:=.r0 Wig
def Yq9:=[Qa (Qv 68) (Qd (Qn 5)),Qa (Qv 69) (Qd (Qn 68)),Qb 69 true (Qv 70),Qa (Qv 70) (Qd (Qn 10)),Qb 69 true (Qv 71),Qa (Qv 71) (Qd (Qn 12)),Qb 69 true (Qv 72),Qa (Qv 72) (Qe Q7 Qz (Qn 70) (Qn 71)),Qb 69 true (Qv 73),Qa (Qv 73) (Qf 2 true (Qn 6)),Qb 69 true (Qv 74),Qa (Qv 74) (Qf 2 true (Qn 8)),Qb 69 true (Qv 75),Qa (Qv 75) (Qh 23 [(Qn 73),(Qn 74)]),Qb 69 true (Qv 76),Qa (Qv 76) (Qe Leaf.b Qz (Qn 72) (Qn 75)),Qa (Qv 77) (Qm (Qn 69) (Qn 76) (Qo (Qp (Qq (Qs false))))),Qa (Qv 4) (Qd (Qn 77))]
def Wih:MC:=.r0 Yq9
def Wii:MC:=.seq Wwz (.seq (.seq Ww0 (.cond (Qn 50) (.seq Ww1 .ret) .skip)) (.seq Wih .ret))
def Wij:MC:=.seq Www (.seq Wwx (.seq Wwy Wii))
def Yra:MC:=.seq Wwu (.seq Wwv Wij)
attribute [go_sem] Wh9 Wia Wib Wic Wid Wie Wif Wig Yq9
theorem W0m:KK QP 8 f8 [2,3] Yra [(Qy 4)] 78:=by refine⟨func8,?_,?_,?_,?_⟩<;>kernel_rfl
theorem Ww2:Xaa QP 8=true:=by kernel_rfl
theorem Ww3 (h:GI QP gp [(Qy 4)] res 78 Yra args):Does QP gp 8 args res:=W0m.i Ww2 h
def Wik:=[Qa (Qv 0) (Qd (Qo (Qp (Qq (Qs false)))))]
def Ww4:MC:=.r0 Wik
def Wil:=[Qa (Qv 10) (Q5 1 [(Qr Qu 0)] 2 [(0,(Qo (Qp (Qq (Qr Qu 1))))),(1,(Qo (Qp (Qq (Qr Qu 0)))))]),Qa (Qv 11) (Q4 [(Qr Qu 0),(Qr Qu 0),(Qr Qu 0),(Q1 (Qw #[])),(Q9 []),(Q9 [])] [(0,(1,(Qo (Qp (Qq (Qr Qu 1)))))),(5,(1,(Qn 10)))]),Qa (Qv 12) (Q4 [(Qr Qu 0),(Qr Qu 0),(Q1 (Qw #[]))] [(0,(1,(Qo (Qp (Qq (Qr Qu 3)))))),(2,(1,(Qo (Qp (Qq (Q1 (Qw #[107])))))))]),Qa (Qv 13) (Q5 3 [(Qr Qu 0),(Qr Qu 0),(Q1 (Qw #[]))] 1 [(0,(Qn 12))]),Qa (Qv 14) (Q5 1 [(Qr Qu 0)] 1 [(0,(Qo (Qp (Qq (Qr Qu 2)))))]),Qa (Qv 15) (Q4 [(Qr Qu 0),(Qr Qu 0),(Qr Qu 0),(Q1 (Qw #[])),(Q9 []),(Q9 [])] [(0,(1,(Qo (Qp (Qq (Qr Qu 2)))))),(4,(1,(Qn 13))),(5,(1,(Qn 14)))]),Qa (Qv 16) (Q4 [(Qr Qu 0),(Qr Qu 0),(Q1 (Qw #[]))] [(0,(1,(Qo (Qp (Qq (Qr Qu 2)))))),(1,(1,(Qo (Qp (Qq (Qr Qu 5))))))]),Qa (Qv 17) (Q4 [(Qr Qu 0),(Qr Qu 0),(Qr Qu 0),(Q1 (Qw #[])),(Q9 []),(Q9 [])] [(1,(3,(Qn 16)))]),Qa (Qv 18) (Q5 6 [(Qr Qu 0),(Qr Qu 0),(Qr Qu 0),(Q1 (Qw #[])),(Q9 []),(Q9 [])] 3 [(0,(Qn 11)),(1,(Qn 15)),(2,(Qn 17))]),Qa (Qv 19) (Q4 [(Qr Qu 0),(Q9 [])] [(1,(1,(Qn 18)))]),Qa (Qv 1) (Q3 [(Qr Qu 0),(Q9 [])]),Qa none (Ql 2 (Qn 1) (Qn 19))]
def Ww5:MC:=.r0 Wil
def Wim:=[Qa (Qv 21) (Qf 2 true (Qn 1)),Qa (Qv 22) (Qh 11 [(Qn 21)]),Qa (Qv 20) (Qd (Qn 22)),Qa (Qv 23) (Qi (Qn 20) 0),Qa (Qv 24) (Qi (Qn 20) 1),Qa (Qv 2) (Qd (Qn 23)),Qa (Qv 3) (Qd (Qn 24))]
def Ww6:MC:=.r0 Wim
def Win:=[Qa (Qv 26) (Qf 2 true (Qn 1)),Qa (Qv 27) (Qh 13 [(Qn 26)]),Qa (Qv 25) (Qd (Qn 27)),Qa (Qv 28) (Qi (Qn 25) 0),Qa (Qv 29) (Qi (Qn 25) 1),Qa (Qv 4) (Qd (Qn 28)),Qa (Qv 5) (Qd (Qn 29))]
def Ww7:MC:=.r0 Win
def Wio:=[Qa (Qv 31) (Qf 2 true (Qn 1)),Qa (Qv 32) (Qh 15 [(Qn 31)]),Qa (Qv 30) (Qd (Qn 32)),Qa (Qv 33) (Qi (Qn 30) 0),Qa (Qv 34) (Qi (Qn 30) 1),Qa (Qv 6) (Qd (Qn 33)),Qa (Qv 7) (Qd (Qn 34))]
def Ww8:MC:=.r0 Wio
def Wip:=[Qa (Qv 36) (Qg 1 (Qn 1)),Qa (Qv 37) (Qf 1 false (Qn 36)),Qa (Qv 38) (Q4 [(Qr Qu 0),(Q9 [])] [(0,(1,(Qo (Qp (Qq (Qr Qu 1)))))),(1,(1,(Qn 37)))]),Qa (Qv 39) (Qh 11 [(Qn 38)]),Qa (Qv 35) (Qd (Qn 39)),Qa (Qv 40) (Qi (Qn 35) 0),Qa (Qv 41) (Qi (Qn 35) 1),Qa (Qv 8) (Qd (Qn 40)),Qa (Qv 9) (Qd (Qn 41))]
def Ww9:MC:=.r0 Wip
def Wiq:=[Qa (Qv 42) (Qd (Qn 2)),Qa (Qv 43) (Qe Q7 Qz (Qn 42) (Qo (Qp (Qq (Q1 (Qw #[38,97,49,10,45,10,32,32,34,107,34,58,32,53,10,45,32,42,97,49,10])))))),Qa (Qv 44) (Qd (Qn 43)),Qb 44 true (Qv 45),Qa (Qv 45) (Qd (Qn 3)),Qb 44 true (Qv 46),Qa (Qv 46) (Qe Qt Qz (Qn 45) (Qo (Qp (Qq (Qr Qu 0))))),Qa (Qv 47) (Qm (Qn 44) (Qn 46) (Qo (Qp (Qq (Qs false))))),Qa (Qv 48) (Qd (Qn 47)),Qb 48 true (Qv 49),Qa (Qv 49) (Qd (Qn 4)),Qb 48 true (Qv 50),Qa (Qv 50) (Qk Qt (Qn 49)),Qb 48 true (Qv 51),Qa (Qv 51) (Qe Qt Qz (Qn 50) (Qo (Qp (Qq (Qr Qu 4))))),Qa (Qv 52) (Qm (Qn 48) (Qn 51) (Qo (Qp (Qq (Qs false))))),Qa (Qv 53) (Qd (Qn 52)),Qb 53 true (Qv 54),Qa (Qv 54) (Qd (Qn 5)),Qb 53 true (Qv 55),Qa (Qv 55) (Qe Qt Qz (Qn 54) (Qo (Qp (Qq (Qr Qu 0))))),Qa (Qv 56) (Qm (Qn 53) (Qn 55) (Qo (Qp (Qq (Qs false))))),Qa (Qv 57) (Qd (Qn 56)),Qb 57 true (Qv 58),Qa (Qv 58) (Qd (Qn 6)),Qb 57 true (Qv 59),Qa (Qv 59) (Qd (Qn 2)),Qb 57 true (Qv 60),Qa (Qv 60) (Qk Q7 (Qn 59)),Qb 57 true (Qv 61),Qa (Qv 61) (Qe Qt Qz (Qn 58) (Qn 60)),Qa (Qv 62) (Qm (Qn 57) (Qn 61) (Qo (Qp (Qq (Qs false))))),Qa (Qv 63) (Qd (Qn 62)),Qb 63 true (Qv 64),Qa (Qv 64) (Qd (Qn 7)),Qb 63 true (Qv 65),Qa (Qv 65) (Qe Qt Qz (Qn 64) (Qo (Qp (Qq (Qr Qu 0))))),Qa (Qv 66) (Qm (Qn 63) (Qn 65) (Qo (Qp (Qq (Qs false))))),Qa (Qv 67) (Qd (Qn 66)),Qb 67 true (Qv 68),Qa (Qv 68) (Qd (Qn 9)),Qb 67 true (Qv 69),Qa (Qv 69) (Qe Qt Qz (Qn 68) (Qo (Qp (Qq (Qr Qu 72))))),Qa (Qv 70) (Qm (Qn 67) (Qn 69) (Qo (Qp (Qq (Qs false))))),Qa (Qv 0) (Qd (Qn 70))]
def Wxa:MC:=.r0 Wiq
def Wir:MC:=.seq Ww7 (.seq Ww8 (.seq Ww9 (.seq Wxa .ret)))
def Yrb:MC:=.seq Ww4 (.seq Ww5 (.seq Ww6 Wir))
attribute [go_sem] Wik Wil Wim Win Wio Wip Wiq
theorem W0n:KK QP 9 f9 [] Yrb [(Qy 0)] 71:=by refine⟨func9,?_,?_,?_,?_⟩<;>kernel_rfl
theorem Wxb:Xaa QP 9=true:=by kernel_rfl
theorem Wxc (h:GI QP gp [(Qy 0)] res 71 Yrb args):Does QP gp 9 args res:=W0n.i Wxb h
def Yrc:=[Qa (Qv 1) (Q2 (Qn 0)),Qa (Qv 2) (Qd (Qo (Qp (Qq (Q1 (Qw #[])))))),Qa (Qv 3) (Qd (Qo (Qp (Qq (Qr Qu 0)))))]
def Wis:MC:=.r0 Yrc
def Yrd:=[Qa (Qv 10) (Qf 2 true (Qn 1)),Qa (Qv 11) (Qh 26 [(Qn 10)]),Qa (Qv 9) (Qd (Qn 11)),Qa (Qv 12) (Qi (Qn 9) 0),Qa (Qv 13) (Qi (Qn 9) 1),Qa (Qv 4) (Qd (Qn 12)),Qa (Qv 5) (Qd (Qn 13))]
def Wit:MC:=.r0 Yrd
def Yre:=[Qa (Qv 6) (MOp.bldN 56 5)]
def Wiu:MC:=.r0 Yre
def Yrf:=[Qa (Qv 14) (Qd (Qn 4)),Qa (Qv 15) (Qk Qt (Qn 14)),Qa (Qv 16) (Qd (Qo (Qp (Qq (Qr Qu 0)))))]
def Wiv:MC:=.r0 Yrf
def Yrg:=[Qa (Qv 17) (Qe Qt Q0 (Qn 16) (Qn 15))]
def Wiw:MC:=.r0 Yrg
def Yrh:=[Qa (Qv 18) (Qj 1 (Qn 14) (Qn 16)),Qa (Qv 19) (Qf 1 false (Qn 18)),Qa (Qv 8) (Qd (Qn 19))]
def Wix:MC:=.r0 Yrh
def Yri:=[Qa (Qv 20) (Qd (Qn 8)),Qa (Qv 21) (Qe Q7 Qx (Qn 20) (Qo (Qp (Qq (Q1 (Qw #[10])))))),Qa (Qv 22) (Qh 27 [(Qn 6),(Qn 21)])]
def Wiy:MC:=.r0 Yri
def X3x:=[Qa (Qv 23) (Qe Qt Qx (Qn 16) (Qo (Qp (Qq (Qr Qu 1))))),Qa (Qv 16) (Qd (Qn 23))]
def Y0d:MC:=.r0 X3x
def Y0e:MC:=.seq Wiw (.seq (.cond (Qn 17) .skip (Q6 0)) (.seq (.blk 1 (.seq Wix Wiy)) Y0d))
def X3y:=[Qa (Qv 24) (Qh 28 [(Qn 6)]),Qa (Qv 25) (Qd (Qn 5)),Qa (Qv 2) (Qd (Qn 24)),Qa (Qv 3) (Qd (Qn 25))]
def Y0f:MC:=.r0 X3y
def Y0g:MC:=.seq Wiu (.seq (.seq Wiv (.blk 0 (.loop Y0e))) (.seq Y0f .ret))
def X3z:MC:=.seq Wis (.seq Wit Y0g)
attribute [go_sem] Yrc Yrd Yre Yrf Yrg Yrh Yri X3x X3y
theorem Wxd:KK QP 11 f11 [1] X3z [(Qy 2),(Qy 3)] 26:=by refine⟨func11,?_,?_,?_,?_⟩<;>kernel_rfl
theorem Wiz:Xaa QP 11=true:=by kernel_rfl
theorem Wi0 (h:GI QP gp [(Qy 2),(Qy 3)] res 26 X3z args):Does QP gp 11 args res:=Wxd.i Wiz h
def Yrj:=[Qa (Qv 1) (Q2 (Qn 0)),Qa (Qv 2) (Qd (Qo (Qp A.nil))),Qa (Qv 3) (Qd (Qo (Qp (Qq (Qr Qu 0)))))]
def Wi1:MC:=.r0 Yrj
def Yrk:=[Qa (Qv 4) (Qf 2 true (Qn 1)),Qa (Qv 5) (Qh 26 [(Qn 4)]),Qa (Qv 6) (Qi (Qn 5) 0),Qa (Qv 7) (Qi (Qn 5) 1),Qa (Qv 2) (Qd (Qn 6)),Qa (Qv 3) (Qd (Qn 7))]
def Wi2:MC:=.r0 Yrk
def Yrl:MC:=.seq Wi1 (.seq Wi2 .ret)
attribute [go_sem] Yrj Yrk
theorem Wxe:KK QP 13 f13 [1] Yrl [(Qy 2),(Qy 3)] 8:=by refine⟨func13,?_,?_,?_,?_⟩<;>kernel_rfl
theorem Wi3:Xaa QP 13=true:=by kernel_rfl
theorem Wi4 (h:GI QP gp [(Qy 2),(Qy 3)] res 8 Yrl args):Does QP gp 13 args res:=Wxe.i Wi3 h
def Yrm:=[Qa (Qv 1) (Q2 (Qn 0)),Qa (Qv 2) (Qd (Qo (Qp (Qq (Qr Qu 0))))),Qa (Qv 3) (Qd (Qo (Qp (Qq (Qr Qu 0)))))]
def Wi5:MC:=.r0 Yrm
def Yrn:=[Qa (Qv 7) (Qf 2 true (Qn 1)),Qa (Qv 8) (Qh 11 [(Qn 7)]),Qa (Qv 6) (Qd (Qn 8)),Qa (Qv 9) (Qi (Qn 6) 0),Qa (Qv 10) (Qi (Qn 6) 1),Qa (Qv 4) (Qd (Qn 9)),Qa (Qv 5) (Qd (Qn 10))]
def Wi6:MC:=.r0 Yrn
def Yro:=[Qa (Qv 11) (Qd (Qn 4)),Qa (Qv 12) (Qk Q7 (Qn 11)),Qa (Qv 13) (Qd (Qn 5)),Qa (Qv 2) (Qd (Qn 12)),Qa (Qv 3) (Qd (Qn 13))]
def Wi7:MC:=.r0 Yro
def Yrp:MC:=.seq Wi5 (.seq Wi6 (.seq Wi7 .ret))
attribute [go_sem] Yrm Yrn Yro
theorem Wxf:KK QP 15 f15 [1] Yrp [(Qy 2),(Qy 3)] 14:=by refine⟨func15,?_,?_,?_,?_⟩<;>kernel_rfl
theorem Wi8:Xaa QP 15=true:=by kernel_rfl
theorem Wi9 (h:GI QP gp [(Qy 2),(Qy 3)] res 14 Yrp args):Does QP gp 15 args res:=Wxf.i Wi8 h
def Yrq:=[Qa (Qv 1) (Q2 (Qn 0)),Qa (Qv 2) (Q3 [(Qr Qu 0),(Qr Qu 0),(Q1 (Qw #[]))])]
def Wja:MC:=.r0 Yrq
def Yrr:=[Qa (Qv 3) (Qg 0 (Qn 1)),Qa (Qv 4) (Qf 1 false (Qn 3)),Qa (Qv 5) (Qg 1 (Qn 1)),Qa (Qv 6) (Qf 1 false (Qn 5)),Qa (Qv 7) (Qg 2 (Qn 1)),Qa (Qv 8) (Qf 1 false (Qn 7)),Qa (Qv 9) (Qh 34 [(Qn 8)]),Qa (Qv 10) (Q4 [(Qr Qu 0),(Qr Qu 0),(Q1 (Qw #[]))] [(0,(1,(Qn 4))),(1,(1,(Qn 6))),(2,(1,(Qn 9)))]),Qa none (Ql 3 (Qn 2) (Qn 10))]
def Wjb:MC:=.reg true Yrr
def Yrs:MC:=.seq Wja (.seq Wjb .ret)
attribute [go_sem] Yrq Yrr
theorem Wxg:KK QP 18 f18 [1] Yrs [(QE 2 3 true)] 11:=by refine⟨func18,?_,?_,?_,?_⟩<;>kernel_rfl
theorem Wjc:Xaa QP 18=true:=by kernel_rfl
theorem Wjd (h:GI QP gp [(QE 2 3 true)] res 11 Yrs args):Does QP gp 18 args res:=Wxg.i Wjc h
def Yrt:=[Qa (Qv 2) (Q2 (Qn 0)),Qa (Qv 3) (Q2 (Qn 1)),Qa (Qv 4) (Qd (Qo (Qp (Qq (Qs false)))))]
def Wje:MC:=.r0 Yrt
def Yru:=[Qa (Qv 5) (Qd (Qo (Qp (Qq (QS (Go.Fn.func 43) [])))))]
def Wjf:MC:=.r0 Yru
def Yrv:=[Qa (Qv 6) (Qg 0 (Qn 2)),Qa (Qv 7) (Qf 1 false (Qn 6)),Qa (Qv 8) (Qg 0 (Qn 3)),Qa (Qv 9) (Qf 1 false (Qn 8)),Qa (Qv 10) (Qe Qt Qz (Qn 7) (Qn 9)),Qa (Qv 11) (Qd (Qn 10)),Qb 11 true (Qv 12),Qa (Qv 12) (Qg 1 (Qn 2)),Qb 11 true (Qv 13),Qa (Qv 13) (Qf 1 false (Qn 12)),Qb 11 true (Qv 14),Qa (Qv 14) (Qg 1 (Qn 3)),Qb 11 true (Qv 15),Qa (Qv 15) (Qf 1 false (Qn 14)),Qb 11 true (Qv 16),Qa (Qv 16) (Qd (Qn 5)),Qb 11 true (Qv 17),Qa (Qv 17) (Qh 46 [(Qn 13),(Qn 15),(Qn 16)]),Qa (Qv 18) (Qm (Qn 11) (Qn 17) (Qo (Qp (Qq (Qs false))))),Qa (Qv 4) (Qd (Qn 18))]
def Wjg:MC:=.r0 Yrv
def Yrw:MC:=.seq Wje (.seq Wjf (.seq Wjg .ret))
attribute [go_sem] Yrt Yru Yrv
theorem Wxh:KK QP 23 f23 [2,3] Yrw [(Qy 4)] 19:=by refine⟨func23,?_,?_,?_,?_⟩<;>kernel_rfl
theorem Wjh:Xaa QP 23=true:=by kernel_rfl
theorem Wji (h:GI QP gp [(Qy 4)] res 19 Yrw args):Does QP gp 23 args res:=Wxh.i Wjh h
def Yrx:=[Qa (Qv 1) (Q2 (Qn 0)),Qa (Qv 2) (Q3 [(Qr Qu 0),(Q9 [])])]
def Wjj:MC:=.r0 Yrx
def Yry:=[Qa (Qv 9) (Qg 0 (Qn 1)),Qa (Qv 10) (Qf 1 false (Qn 9)),Qa (Qv 11) (Q4 [(Qr Qu 0),(Q9 [])] [(0,(1,(Qn 10)))]),Qa (Qv 3) (Q3 [(Qr Qu 0),(Q9 [])]),Qa none (Ql 2 (Qn 3) (Qn 11))]
def Wjk:MC:=.r0 Yry
def Yrz:=[Qa (Qv 4) (Qd (Qo (Qp (Qq (Qr Qu 0)))))]
def Wjl:MC:=.r0 Yrz
def Yr0:=[Qa (Qv 12) (Qd (Qn 4)),Qa (Qv 13) (Qg 1 (Qn 1)),Qa (Qv 14) (Qf 1 false (Qn 13)),Qa (Qv 15) (Qk Qt (Qn 14)),Qa (Qv 16) (Qe Qt Q0 (Qn 12) (Qn 15)),Qa (Qv 17) (Qd (Qn 16)),Qb 17 true (Qv 18),Qa (Qv 18) (Qd (Qn 4)),Qb 17 true (Qv 19),Qa (Qv 19) (Qe Qt Q0 (Qn 18) (Qo (Qp (Qq (Qr Qu 201))))),Qa (Qv 20) (Qm (Qn 17) (Qn 19) (Qo (Qp (Qq (Qs false)))))]
def Wjm:MC:=.r0 Yr0
def Yr1:=[Qa (Qv 23) (Qg 1 (Qn 1)),Qa (Qv 24) (Qf 1 false (Qn 23)),Qa (Qv 25) (Qd (Qn 4)),Qa (Qv 26) (Qj 6 (Qn 24) (Qn 25)),Qa (Qv 27) (Qf 6 true (Qn 26)),Qa (Qv 5) (Q3 [(Qr Qu 0),(Qr Qu 0),(Qr Qu 0),(Q1 (Qw #[])),(Q9 []),(Q9 [])]),Qa none (Ql 6 (Qn 5) (Qn 27))]
def Wjn:MC:=.r0 Yr1
def Yr2:=[Qa (Qv 28) (Qg 0 (Qn 5)),Qa (Qv 29) (Qf 1 false (Qn 28)),Qa (Qv 30) (Qg 1 (Qn 5)),Qa (Qv 31) (Qf 3 true (Qn 30)),Qa (Qv 32) (Qh 18 [(Qn 31)]),Qa (Qv 33) (Q4 [(Qr Qu 0),(Qr Qu 0),(Qr Qu 0),(Q1 (Qw #[])),(Q9 []),(Q9 [])] [(0,(1,(Qn 29))),(1,(3,(Qn 32)))]),Qa (Qv 6) (Q3 [(Qr Qu 0),(Qr Qu 0),(Qr Qu 0),(Q1 (Qw #[])),(Q9 []),(Q9 [])]),Qa none (Ql 6 (Qn 6) (Qn 33))]
def Wjo:MC:=.reg true Yr2
def X30:=[Qa (Qv 7) (Qd (Qo (Qp (Qq (Qr Qu 0)))))]
def Y0h:MC:=.r0 X30
def X31:=[Qa (Qv 34) (Qd (Qn 7)),Qa (Qv 35) (Qg 4 (Qn 5)),Qa (Qv 36) (Qf 1 false (Qn 35)),Qa (Qv 37) (Qk Qt (Qn 36)),Qa (Qv 38) (Qe Qt Q0 (Qn 34) (Qn 37)),Qa (Qv 39) (Qd (Qn 38)),Qb 39 true (Qv 40),Qa (Qv 40) (Qd (Qn 7)),Qb 39 true (Qv 41),Qa (Qv 41) (Qe Qt Q0 (Qn 40) (Qo (Qp (Qq (Qr Qu 12))))),Qa (Qv 42) (Qm (Qn 39) (Qn 41) (Qo (Qp (Qq (Qs false)))))]
def Y0i:MC:=.r0 X31
def X32:=[Qa (Qv 45) (Qg 4 (Qn 6)),Qa (Qv 46) (Qf 1 false (Qn 45)),Qa (Qv 47) (Qg 4 (Qn 5)),Qa (Qv 48) (Qf 1 false (Qn 47)),Qa (Qv 49) (Qd (Qn 7)),Qa (Qv 50) (Qj 3 (Qn 48) (Qn 49)),Qa (Qv 51) (Qf 3 true (Qn 50)),Qa (Qv 52) (Qh 18 [(Qn 51)]),Qa (Qv 53) (Q5 3 [(Qr Qu 0),(Qr Qu 0),(Q1 (Qw #[]))] 1 [(0,(Qn 52))]),Qa (Qv 54) (QG 39 3 32 (Qn 46) (Qn 53)),Qa (Qv 55) (Qg 4 (Qn 6)),Qa none (Ql 1 (Qn 55) (Qn 54))]
def Y0j:MC:=.reg true X32
def X33:=[Qa (Qv 43) (Qd (Qn 7)),Qa (Qv 44) (Qe Qt Qx (Qn 43) (Qo (Qp (Qq (Qr Qu 1))))),Qa (Qv 7) (Qd (Qn 44))]
def Y0k:MC:=.r0 X33
def Y0l:MC:=.seq Y0h (.blk 2 (.loop (.seq (.seq Y0i (.cond (Qn 42) .skip (Q6 2))) (.seq (.blk 3 Y0j) Y0k))))
def X34:=[Qa (Qv 8) (Qd (Qo (Qp (Qq (Qr Qu 0)))))]
def Y0m:MC:=.r0 X34
def X35:=[Qa (Qv 56) (Qd (Qn 8)),Qa (Qv 57) (Qg 5 (Qn 5)),Qa (Qv 58) (Qf 1 false (Qn 57)),Qa (Qv 59) (Qk Qt (Qn 58)),Qa (Qv 60) (Qe Qt Q0 (Qn 56) (Qn 59)),Qa (Qv 61) (Qd (Qn 60)),Qb 61 true (Qv 62),Qa (Qv 62) (Qd (Qn 8)),Qb 61 true (Qv 63),Qa (Qv 63) (Qe Qt Q0 (Qn 62) (Qo (Qp (Qq (Qr Qu 12))))),Qa (Qv 64) (Qm (Qn 61) (Qn 63) (Qo (Qp (Qq (Qs false)))))]
def Y0n:MC:=.r0 X35
def X36:=[Qa (Qv 67) (Qg 5 (Qn 6)),Qa (Qv 68) (Qf 1 false (Qn 67)),Qa (Qv 69) (Qg 5 (Qn 5)),Qa (Qv 70) (Qf 1 false (Qn 69)),Qa (Qv 71) (Qd (Qn 8)),Qa (Qv 72) (Qj 1 (Qn 70) (Qn 71)),Qa (Qv 73) (Qf 1 false (Qn 72)),Qa (Qv 74) (Q5 1 [(Qr Qu 0)] 1 [(0,(Qn 73))]),Qa (Qv 75) (QG 3 1 8 (Qn 68) (Qn 74)),Qa (Qv 76) (Qg 5 (Qn 6)),Qa none (Ql 1 (Qn 76) (Qn 75))]
def Y0o:MC:=.reg true X36
def X37:=[Qa (Qv 65) (Qd (Qn 8)),Qa (Qv 66) (Qe Qt Qx (Qn 65) (Qo (Qp (Qq (Qr Qu 1))))),Qa (Qv 8) (Qd (Qn 66))]
def Y0p:MC:=.r0 X37
def Y0q:MC:=.seq Y0m (.blk 4 (.loop (.seq (.seq Y0n (.cond (Qn 64) .skip (Q6 4))) (.seq (.blk 5 Y0o) Y0p))))
def X38:=[Qa (Qv 77) (Qg 1 (Qn 3)),Qa (Qv 78) (Qf 1 false (Qn 77)),Qa (Qv 79) (Qf 6 true (Qn 6)),Qa (Qv 80) (Q5 6 [(Qr Qu 0),(Qr Qu 0),(Qr Qu 0),(Q1 (Qw #[])),(Q9 []),(Q9 [])] 1 [(0,(Qn 79))]),Qa (Qv 81) (QG 43 6 88 (Qn 78) (Qn 80)),Qa (Qv 82) (Qg 1 (Qn 3)),Qa none (Ql 1 (Qn 82) (Qn 81))]
def Y0r:MC:=.r0 X38
def Y0s:MC:=.seq Wjo (.seq Y0l (.seq Y0q Y0r))
def X39:=[Qa (Qv 21) (Qd (Qn 4)),Qa (Qv 22) (Qe Qt Qx (Qn 21) (Qo (Qp (Qq (Qr Qu 1))))),Qa (Qv 4) (Qd (Qn 22))]
def Y0t:MC:=.r0 X39
def Y0u:MC:=.seq (.seq Wjm (.cond (Qn 20) .skip (Q6 0))) (.seq (.blk 1 (.seq Wjn Y0s)) Y0t)
def X4a:=[Qa (Qv 83) (Qf 2 true (Qn 3)),Qa none (Ql 2 (Qn 2) (Qn 83))]
def Y0v:MC:=.r0 X4a
def Y0w:MC:=.seq Wjk (.seq (.seq Wjl (.blk 0 (.loop Y0u))) (.seq Y0v .ret))
def X4b:MC:=.seq Wjj Y0w
attribute [go_sem] Yrx Yry Yrz Yr0 Yr1 Yr2 X30 X31 X32 X33 X34 X35 X36 X37 X38 X39 X4a
theorem Wxi:KK QP 24 f24 [1] X4b [(QE 2 2 true)] 84:=by refine⟨func24,?_,?_,?_,?_⟩<;>kernel_rfl
theorem Wjp:Xaa QP 24=true:=by kernel_rfl
theorem Wjq (h:GI QP gp [(QE 2 2 true)] res 84 X4b args):Does QP gp 24 args res:=Wxi.i Wjp h
def Yr3:=[Qa (Qv 1) (Q2 (Qn 0)),Qa (Qv 2) (Qd (Qo (Qp A.nil))),Qa (Qv 3) (Qd (Qo (Qp (Qq (Qr Qu 0)))))]
def Wjr:MC:=.r0 Yr3
def Yr4:=[Qa (Qv 10) (Qf 2 true (Qn 1)),Qa (Qv 11) (Qh 53 [(Qn 10)]),Qa (Qv 12) (QB (Qn 11))]
def Wjs:MC:=.r0 Yr4
def Yr5:=[Qa (Qv 2) (Qd (Qo (Qp A.nil))),Qa (Qv 3) (Qd (Qo (Qp (Qq (Qr Qu 72)))))]
def Wjt:MC:=.r0 Yr5
def Yr6:=[Qa (Qv 13) (Qf 2 true (Qn 1)),Qa (Qv 14) (Qh 54 [(Qn 13)])]
def Wju:MC:=.r0 Yr6
def Yr7:=[Qa (Qv 2) (Qd (Qo (Qp A.nil))),Qa (Qv 3) (Qd (Qo (Qp (Qq (Qr Qu 73)))))]
def Wjv:MC:=.r0 Yr7
def X4c:=[Qa (Qv 16) (Qf 2 true (Qn 1)),Qa (Qv 17) (Qh 55 [(Qn 16)]),Qa (Qv 15) (Qd (Qn 17)),Qa (Qv 18) (Qi (Qn 15) 0),Qa (Qv 19) (Qi (Qn 15) 1),Qa (Qv 4) (Qd (Qn 18)),Qa (Qv 5) (Qd (Qn 19))]
def Y0x:MC:=.r0 X4c
def X4d:=[Qa (Qv 20) (Qf 2 true (Qn 1)),Qa (Qv 21) (Qd (Qn 4)),Qa (Qv 22) (Qh 56 [(Qn 20),(Qn 21)]),Qa (Qv 23) (Qe Qt QA (Qn 22) (Qo (Qp (Qq (Qr Qu 200)))))]
def Y0y:MC:=.r0 X4d
def X4e:=[Qa (Qv 2) (Qd (Qo (Qp A.nil))),Qa (Qv 3) (Qd (Qo (Qp (Qq (Qr Qu 71)))))]
def Y0z:MC:=.r0 X4e
def X4f:=[Qa (Qv 24) (Qf 2 true (Qn 1)),Qa (Qv 25) (Qd (Qn 4)),Qa (Qv 26) QT,Qa (Qv 27) (Q4 [(Qr Qu 0),(Q9 []),(Q9 []),(D.raw (Go.Value.map none))] [(0,(2,(Qn 24))),(2,(1,(Qn 25))),(3,(1,(Qn 26)))]),Qa (Qv 28) (QZ (Qn 27)),Qa (Qv 6) (Qd (Qn 28))]
def Y00:MC:=.r0 X4f
def X4g:=[Qa (Qv 7) (Q3 [(Q9 [])])]
def Y01:MC:=.r0 X4g
def X4h:=[Qa (Qv 8) (Q3 [(Qr Qu 0)]),Qa none (Ql 1 (Qn 8) (Qo (Qp (Qq (Qr Qu 0)))))]
def Y02:MC:=.r0 X4h
def X4i:=[Qa (Qv 29) (Qd (Qn 6)),Qa (Qv 30) (Qh 57 [(Qn 29)])]
def Y03:MC:=.r0 X4i
def X4j:=[Qa (Qv 9) (Q3 [(Q1 (Qw #[])),(Qr Qu 0),(Qr Qu 0)]),Qa none (Ql 3 (Qn 9) (Qn 31))]
def Y04:MC:=.r0 X4j
def X4k:=[Qa (Qv 32) (Qf 1 false (Qn 7)),Qa (Qv 33) (Qg 0 (Qn 9)),Qa (Qv 34) (Qf 1 false (Qn 33)),Qa (Qv 35) (Q5 1 [(Q1 (Qw #[]))] 1 [(0,(Qn 34))]),Qa (Qv 36) (QG 9 1 16 (Qn 32) (Qn 35)),Qa none (Ql 1 (Qn 7) (Qn 36))]
def Y05:MC:=.r0 X4k
def X4l:=[Qa (Qv 37) (Qf 1 false (Qn 8)),Qa (Qv 38) (Qg 0 (Qn 9)),Qa (Qv 39) (Qf 1 false (Qn 38)),Qa (Qv 40) (Qk Q7 (Qn 39)),Qa (Qv 41) (Qe Qt Qx (Qn 40) (Qo (Qp (Qq (Qr Qu 1))))),Qa (Qv 42) (Qe Qt Qx (Qn 37) (Qn 41)),Qa none (Ql 1 (Qn 8) (Qn 42))]
def Y06:MC:=.r0 X4l
def X4m:=[Qa (Qv 43) (Qf 1 false (Qn 8)),Qa (Qv 44) (Qe Qt QA (Qn 43) (Qo (Qp (Qq (Qr Qu 8000)))))]
def Y07:MC:=.r0 X4m
def Y08:MC:=.rf (Qn 30) [31] Y04 (.blk 1 (.seq Y05 (.seq Y06 (.seq Y07 (.cond (Qn 44) (Q6 0) .skip)))))
def X4n:=[Qa (Qv 45) (Qf 1 false (Qn 8)),Qa (Qv 46) (Qe Qt QA (Qn 45) (Qo (Qp (Qq (Qr Qu 8000)))))]
def Y09:MC:=.r0 X4n
def X4o:=[Qa (Qv 2) (Qd (Qo (Qp A.nil))),Qa (Qv 3) (Qd (Qo (Qp (Qq (Qr Qu 20)))))]
def Y1a:MC:=.r0 X4o
def X4p:=[Qa (Qv 47) (Qf 1 false (Qn 7)),Qa (Qv 2) (Qd (Qn 47)),Qa (Qv 3) (Qd (Qo (Qp (Qq (Qr Qu 0)))))]
def Y1b:MC:=.r0 X4p
def Y1c:MC:=.seq (.seq Y03 (.blk 0 Y08)) (.seq (.seq Y09 (.cond (Qn 46) (.seq Y1a .ret) .skip)) (.seq Y1b .ret))
def Y1d:MC:=.seq Y00 (.seq Y01 (.seq Y02 (.seq .skip Y1c)))
def Y1e:MC:=.seq Y0x (.seq (.seq Y0y (.cond (Qn 23) (.seq Y0z .ret) .skip)) Y1d)
def Y1f:MC:=.seq (.seq Wjs (.cond (Qn 12) (.seq Wjt .ret) .skip)) (.seq (.seq Wju (.cond (Qn 14) (.seq Wjv .ret) .skip)) Y1e)
def X4q:MC:=.seq Wjr (.scope Y1f)
attribute [go_sem] Yr3 Yr4 Yr5 Yr6 Yr7 X4c X4d X4e X4f X4g X4h X4i X4j X4k X4l X4m X4n X4o X4p
theorem Wxj:KK QP 26 f26 [1] X4q [(Qy 2),(Qy 3)] 48:=by refine⟨func26,?_,?_,?_,?_⟩<;>kernel_rfl
theorem Wjw:Xaa QP 26=true:=by kernel_rfl
theorem Xv4 (h:GI QP gp [(Qy 2),(Qy 3)] res 48 X4q args):Does QP gp 26 args res:=Wxj.i Wjw h
def Yr8:=[Qa (Qv 2) (Qd (Qo (Qp (Qq (Q1 (Qw #[]))))))]
def Wjx:MC:=.r0 Yr8
def Yr9:=[Qa (Qv 3) (Qd (Qn 0)),Qa (Qv 4) (Qd (Qn 0)),Qa (Qv 5) (Qk Q7 (Qn 4)),Qa (Qv 6) (MOp.min (Qn 5) (Qo (Qp (Qq (Qr Qu 100))))),Qa (Qv 7) (QX (Qn 3) none (Qv (Qn 6))),Qa (Qv 2) (Qd (Qn 7))]
def Wjy:MC:=.r0 Yr9
def Ysa:MC:=.seq Wjx (.seq Wjy .ret)
attribute [go_sem] Yr8 Yr9
theorem Wxk:KK QP 34 f34 [] Ysa [(Qy 2)] 8:=by refine⟨func34,?_,?_,?_,?_⟩<;>kernel_rfl
theorem Wjz:Xaa QP 34=true:=by kernel_rfl
theorem Wj0 (h:GI QP gp [(Qy 2)] res 8 Ysa args):Does QP gp 34 args res:=Wxk.i Wjz h
def Ysb:=[Qa (Qv 1) (Q2 (Qn 0)),Qa (Qv 2) (Qd (Qo (Qp (Qq (Qs false)))))]
def Wj1:MC:=.r0 Ysb
def Ysc:=[Qa (Qv 3) (Qg 0 (Qn 1)),Qa (Qv 4) (Qf 1 false (Qn 3))]
def Wj2:MC:=.r0 Ysc
def Ysd:=[Qa (Qv 6) (Qe Qt Qz (Qn 4) (Qo (Qp (Qq (Qr Qu 0))))),Qa (Qv 5) (Qd (Qn 6))]
def Wj3:MC:=.r0 Ysd
def Yse:=[Qa (Qv 7) (Qf 3 true (Qn 1)),Qa (Qv 8) (Q4 [(Qr Qu 0),(Qr Qu 0),(Q1 (Qw #[]))] []),Qa (Qv 9) (QK false [Qt,Qt,Q7] (Qn 7) (Qn 8)),Qa (Qv 2) (Qd (Qn 9))]
def Wj4:MC:=.r0 Yse
def Ysf:=[Qa (Qv 11) (Qe Qt Qz (Qn 4) (Qo (Qp (Qq (Qr Qu 1))))),Qa (Qv 10) (Qd (Qn 11))]
def Wj5:MC:=.r0 Ysf
def Ysg:=[Qa (Qv 12) (Qg 2 (Qn 1)),Qa (Qv 13) (Qf 1 false (Qn 12)),Qa (Qv 14) (Qe Q7 Qz (Qn 13) (Qo (Qp (Qq (Q1 (Qw #[])))))),Qa (Qv 15) (Qd (Qn 14)),Qb 15 true (Qv 16),Qa (Qv 16) (Qg 1 (Qn 1)),Qb 15 true (Qv 17),Qa (Qv 17) (Qf 1 false (Qn 16)),Qb 15 true (Qv 18),Qa (Qv 18) (Qe Qt Qz (Qn 17) (Qo (Qp (Qq (Qr Qu 0))))),Qb 15 true (Qv 19),Qa (Qv 19) (Qd (Qn 18)),Qb 19 false (Qv 20),Qa (Qv 20) (Qg 1 (Qn 1)),Qb 19 false (Qv 21),Qa (Qv 21) (Qf 1 false (Qn 20)),Qb 19 false (Qv 22),Qa (Qv 22) (Qe Qt Qz (Qn 21) (Qo (Qp (Qq (Qr Qu 1))))),Qb 15 true (Qv 23),Qa (Qv 23) (Qm (Qn 19) (Qo (Qp (Qq (Qs true)))) (Qn 22)),Qa (Qv 24) (Qm (Qn 15) (Qn 23) (Qo (Qp (Qq (Qs false))))),Qa (Qv 2) (Qd (Qn 24))]
def Wj6:MC:=.r0 Ysg
def X4r:=[Qa (Qv 26) (Qe Qt Qz (Qn 4) (Qo (Qp (Qq (Qr Qu 2))))),Qa (Qv 25) (Qd (Qn 26))]
def Y1g:MC:=.r0 X4r
def X4s:=[Qa (Qv 27) (Qg 2 (Qn 1)),Qa (Qv 28) (Qf 1 false (Qn 27)),Qa (Qv 29) (Qe Q7 Qz (Qn 28) (Qo (Qp (Qq (Q1 (Qw #[])))))),Qa (Qv 30) (Qd (Qn 29)),Qb 30 true (Qv 31),Qa (Qv 31) (Qg 1 (Qn 1)),Qb 30 true (Qv 32),Qa (Qv 32) (Qf 1 false (Qn 31)),Qb 30 true (Qv 33),Qa (Qv 33) (Qe Qt QD (Qn 32) (Qo (Qp (Qq (Qr Qu (-999999999999999)))))),Qa (Qv 34) (Qm (Qn 30) (Qn 33) (Qo (Qp (Qq (Qs false))))),Qa (Qv 35) (Qd (Qn 34)),Qb 35 true (Qv 36),Qa (Qv 36) (Qg 1 (Qn 1)),Qb 35 true (Qv 37),Qa (Qv 37) (Qf 1 false (Qn 36)),Qb 35 true (Qv 38),Qa (Qv 38) (Qe Qt QM (Qn 37) (Qo (Qp (Qq (Qr Qu 999999999999999))))),Qa (Qv 39) (Qm (Qn 35) (Qn 38) (Qo (Qp (Qq (Qs false))))),Qa (Qv 2) (Qd (Qn 39))]
def Y1h:MC:=.r0 X4s
def X4t:=[Qa (Qv 41) (Qe Qt Qz (Qn 4) (Qo (Qp (Qq (Qr Qu 3))))),Qa (Qv 40) (Qd (Qn 41))]
def Y1i:MC:=.r0 X4t
def X4u:=[Qa (Qv 42) (Qg 1 (Qn 1)),Qa (Qv 43) (Qf 1 false (Qn 42)),Qa (Qv 44) (Qe Qt Qz (Qn 43) (Qo (Qp (Qq (Qr Qu 0))))),Qa (Qv 45) (Qd (Qn 44)),Qb 45 true (Qv 46),Qa (Qv 46) (Qg 2 (Qn 1)),Qb 45 true (Qv 47),Qa (Qv 47) (Qf 1 false (Qn 46)),Qb 45 true (Qv 48),Qa (Qv 48) (Qh 63 [(Qn 47)]),Qa (Qv 49) (Qm (Qn 45) (Qn 48) (Qo (Qp (Qq (Qs false))))),Qa (Qv 2) (Qd (Qn 49))]
def Y1j:MC:=.r0 X4u
def Y1k:MC:=.seq Y1g (.cond (Qn 25) (.seq Y1h .ret) (.seq Y1i (.cond (Qn 40) (.seq Y1j .ret) .skip)))
def Y1l:MC:=.cond (Qn 5) (.seq Wj4 .ret) (.seq Wj5 (.cond (Qn 10) (.seq Wj6 .ret) Y1k))
def X4v:=[Qa (Qv 2) (Qd (Qo (Qp (Qq (Qs false)))))]
def Y1m:MC:=.r0 X4v
def Y1n:MC:=.seq (.seq Wj2 (.blk 0 (.seq Wj3 Y1l))) (.seq Y1m .ret)
def X4w:MC:=.seq Wj1 Y1n
attribute [go_sem] Ysb Ysc Ysd Yse Ysf Ysg X4r X4s X4t X4u X4v
theorem Wxl:KK QP 35 f35 [1] X4w [(Qy 2)] 50:=by refine⟨func35,?_,?_,?_,?_⟩<;>kernel_rfl
theorem Wj7:Xaa QP 35=true:=by kernel_rfl
theorem Wj8 (h:GI QP gp [(Qy 2)] res 50 X4w args):Does QP gp 35 args res:=Wxl.i Wj7 h
def Ysh:=[Qa (Qv 2) (Q2 (Qn 0)),Qa (Qv 3) (Q2 (Qn 1)),Qa (Qv 4) (Qd (Qo (Qp (Qq (Qs false)))))]
def Wj9:MC:=.r0 Ysh
def Ysi:=[Qa (Qv 5) (Qg 0 (Qn 2)),Qa (Qv 6) (Qf 1 false (Qn 5)),Qa (Qv 7) (Qg 0 (Qn 3)),Qa (Qv 8) (Qf 1 false (Qn 7)),Qa (Qv 9) (Qe Qt Qz (Qn 6) (Qn 8)),Qa (Qv 10) (Qd (Qn 9)),Qb 10 true (Qv 11),Qa (Qv 11) (Qg 1 (Qn 2)),Qb 10 true (Qv 12),Qa (Qv 12) (Qf 3 true (Qn 11)),Qb 10 true (Qv 13),Qa (Qv 13) (Qg 1 (Qn 3)),Qb 10 true (Qv 14),Qa (Qv 14) (Qf 3 true (Qn 13)),Qb 10 true (Qv 15),Qa (Qv 15) (QK false [Qt,Qt,Q7] (Qn 12) (Qn 14)),Qa (Qv 16) (Qm (Qn 10) (Qn 15) (Qo (Qp (Qq (Qs false))))),Qa (Qv 17) (Qd (Qn 16)),Qb 17 true (Qv 18),Qa (Qv 18) (Qg 4 (Qn 2)),Qb 17 true (Qv 19),Qa (Qv 19) (Qf 1 false (Qn 18)),Qb 17 true (Qv 20),Qa (Qv 20) (Qg 4 (Qn 3)),Qb 17 true (Qv 21),Qa (Qv 21) (Qf 1 false (Qn 20)),Qb 17 true (Qv 22),Qa (Qv 22) (Qh 44 [(Qn 19),(Qn 21)]),Qa (Qv 23) (Qm (Qn 17) (Qn 22) (Qo (Qp (Qq (Qs false))))),Qa (Qv 24) (Qd (Qn 23)),Qb 24 true (Qv 25),Qa (Qv 25) (Qg 5 (Qn 2)),Qb 24 true (Qv 26),Qa (Qv 26) (Qf 1 false (Qn 25)),Qb 24 true (Qv 27),Qa (Qv 27) (Qg 5 (Qn 3)),Qb 24 true (Qv 28),Qa (Qv 28) (Qf 1 false (Qn 27)),Qb 24 true (Qv 29),Qa (Qv 29) (Qh 45 [(Qn 26),(Qn 28)]),Qa (Qv 30) (Qm (Qn 24) (Qn 29) (Qo (Qp (Qq (Qs false))))),Qa (Qv 4) (Qd (Qn 30))]
def Wka:MC:=.r0 Ysi
def Ysj:MC:=.seq Wj9 (.seq Wka .ret)
attribute [go_sem] Ysh Ysi
theorem Wxm:KK QP 43 f43 [2,3] Ysj [(Qy 4)] 31:=by refine⟨func43,?_,?_,?_,?_⟩<;>kernel_rfl
theorem Wkb:Xaa QP 43=true:=by kernel_rfl
theorem Wkc (h:GI QP gp [(Qy 4)] res 31 Ysj args):Does QP gp 43 args res:=Wxm.i Wkb h
def Ysk:=[Qa (Qv 4) (Qd (Qo (Qp (Qq (Qs false)))))]
def Wkd:MC:=.r0 Ysk
def Ysl:=[Qa (Qv 6) (Qd (Qn 0)),Qa (Qv 7) (Qk Qt (Qn 6)),Qa (Qv 8) (Qd (Qn 1)),Qa (Qv 9) (Qk Qt (Qn 8)),Qa (Qv 10) (Qe Qt Q8 (Qn 7) (Qn 9))]
def Wke:MC:=.r0 Ysl
def Ysm:=[Qa (Qv 4) (Qd (Qo (Qp (Qq (Qs false)))))]
def Wkf:MC:=.r0 Ysm
def Ysn:=[Qa (Qv 11) (Qd (Qn 0)),Qa (Qv 12) (Qk Qt (Qn 11)),Qa (Qv 13) (Qd (Qo (Qp (Qq (Qr Qu 0)))))]
def Wkg:MC:=.r0 Ysn
def Yso:=[Qa (Qv 14) (Qe Qt Q0 (Qn 13) (Qn 12))]
def Wkh:MC:=.r0 Yso
def X4x:=[Qa (Qv 15) (Qd (Qn 13)),Qa (Qv 5) (Qd (Qn 15))]
def Y1o:MC:=.r0 X4x
def X4y:=[Qa (Qv 16) (Qd (Qn 0)),Qa (Qv 17) (Qd (Qn 5)),Qa (Qv 18) (Qj 3 (Qn 16) (Qn 17)),Qa (Qv 19) (Qf 3 true (Qn 18)),Qa (Qv 20) (Qd (Qn 1)),Qa (Qv 21) (Qd (Qn 5)),Qa (Qv 22) (Qj 3 (Qn 20) (Qn 21)),Qa (Qv 23) (Qf 3 true (Qn 22)),Qa (Qv 24) (QK true [Qt,Qt,Q7] (Qn 19) (Qn 23))]
def Y1p:MC:=.reg true X4y
def X4z:=[Qa (Qv 4) (Qd (Qo (Qp (Qq (Qs false)))))]
def Y1q:MC:=.r0 X4z
def X40:=[Qa (Qv 25) (Qe Qt Qx (Qn 13) (Qo (Qp (Qq (Qr Qu 1))))),Qa (Qv 13) (Qd (Qn 25))]
def Y1r:MC:=.r0 X40
def Y1s:MC:=.seq (.blk 1 (.seq Y1o (.seq Y1p (.cond (Qn 24) (.seq Y1q .ret) .skip)))) Y1r
def X41:=[Qa (Qv 4) (Qd (Qo (Qp (Qq (Qs true)))))]
def Y1t:MC:=.r0 X41
def Y1u:MC:=.seq (.seq Wkg (.blk 0 (.loop (.seq Wkh (.seq (.cond (Qn 14) .skip (Q6 0)) Y1s))))) (.seq Y1t .ret)
def X42:MC:=.seq Wkd (.seq (.seq Wke (.cond (Qn 10) (.seq Wkf .ret) .skip)) Y1u)
attribute [go_sem] Ysk Ysl Ysm Ysn Yso X4x X4y X4z X40 X41
theorem Wxn:KK QP 44 f44 [] X42 [(Qy 4)] 26:=by refine⟨func44,?_,?_,?_,?_⟩<;>kernel_rfl
theorem Wki:Xaa QP 44=true:=by kernel_rfl
theorem Wkj (h:GI QP gp [(Qy 4)] res 26 X42 args):Does QP gp 44 args res:=Wxn.i Wki h
def Ysp:=[Qa (Qv 4) (Qd (Qo (Qp (Qq (Qs false)))))]
def Wkk:MC:=.r0 Ysp
def Ysq:=[Qa (Qv 6) (Qd (Qn 0)),Qa (Qv 7) (Qk Qt (Qn 6)),Qa (Qv 8) (Qd (Qn 1)),Qa (Qv 9) (Qk Qt (Qn 8)),Qa (Qv 10) (Qe Qt Q8 (Qn 7) (Qn 9))]
def Wkl:MC:=.r0 Ysq
def Ysr:=[Qa (Qv 4) (Qd (Qo (Qp (Qq (Qs false)))))]
def Wkm:MC:=.r0 Ysr
def Yss:=[Qa (Qv 11) (Qd (Qn 0)),Qa (Qv 12) (Qk Qt (Qn 11)),Qa (Qv 13) (Qd (Qo (Qp (Qq (Qr Qu 0)))))]
def Wkn:MC:=.r0 Yss
def Yst:=[Qa (Qv 14) (Qe Qt Q0 (Qn 13) (Qn 12))]
def Wko:MC:=.r0 Yst
def X43:=[Qa (Qv 15) (Qd (Qn 13)),Qa (Qv 5) (Qd (Qn 15))]
def Y1v:MC:=.r0 X43
def X44:=[Qa (Qv 16) (Qd (Qn 0)),Qa (Qv 17) (Qd (Qn 5)),Qa (Qv 18) (Qj 1 (Qn 16) (Qn 17)),Qa (Qv 19) (Qf 1 false (Qn 18)),Qa (Qv 20) (Qd (Qn 1)),Qa (Qv 21) (Qd (Qn 5)),Qa (Qv 22) (Qj 1 (Qn 20) (Qn 21)),Qa (Qv 23) (Qf 1 false (Qn 22)),Qa (Qv 24) (Qe Qt Q8 (Qn 19) (Qn 23))]
def Y1w:MC:=.reg true X44
def X45:=[Qa (Qv 4) (Qd (Qo (Qp (Qq (Qs false)))))]
def Y1x:MC:=.r0 X45
def X46:=[Qa (Qv 25) (Qe Qt Qx (Qn 13) (Qo (Qp (Qq (Qr Qu 1))))),Qa (Qv 13) (Qd (Qn 25))]
def Y1y:MC:=.r0 X46
def Y1z:MC:=.seq (.blk 1 (.seq Y1v (.seq Y1w (.cond (Qn 24) (.seq Y1x .ret) .skip)))) Y1y
def X47:=[Qa (Qv 4) (Qd (Qo (Qp (Qq (Qs true)))))]
def Y10:MC:=.r0 X47
def Y11:MC:=.seq (.seq Wkn (.blk 0 (.loop (.seq Wko (.seq (.cond (Qn 14) .skip (Q6 0)) Y1z))))) (.seq Y10 .ret)
def X48:MC:=.seq Wkk (.seq (.seq Wkl (.cond (Qn 10) (.seq Wkm .ret) .skip)) Y11)
attribute [go_sem] Ysp Ysq Ysr Yss Yst X43 X44 X45 X46 X47
theorem Wxo:KK QP 45 f45 [] X48 [(Qy 4)] 26:=by refine⟨func45,?_,?_,?_,?_⟩<;>kernel_rfl
theorem Wkp:Xaa QP 45=true:=by kernel_rfl
theorem Wkq (h:GI QP gp [(Qy 4)] res 26 X48 args):Does QP gp 45 args res:=Wxo.i Wkp h
def Ysu:=[Qa (Qv 6) (Qd (Qo (Qp (Qq (Qs false)))))]
def Wkr:MC:=.r0 Ysu
def Ysv:=[Qa (Qv 10) (Qd (Qn 0)),Qa (Qv 11) (Qk Qt (Qn 10)),Qa (Qv 12) (Qd (Qn 1)),Qa (Qv 13) (Qk Qt (Qn 12)),Qa (Qv 14) (Qe Qt Q8 (Qn 11) (Qn 13))]
def Wks:MC:=.r0 Ysv
def Ysw:=[Qa (Qv 6) (Qd (Qo (Qp (Qq (Qs false)))))]
def Wkt:MC:=.r0 Ysw
def Ysx:=[Qa (Qv 15) (Qd (Qn 0)),Qa (Qv 16) (Qk Qt (Qn 15)),Qa (Qv 17) (Qd (Qo (Qp (Qq (Qr Qu 0)))))]
def Wku:MC:=.r0 Ysx
def Ysy:=[Qa (Qv 18) (Qe Qt Q0 (Qn 17) (Qn 16))]
def Wkv:MC:=.r0 Ysy
def X49:=[Qa (Qv 19) (Qd (Qn 17)),Qa (Qv 20) (Qj 6 (Qn 15) (Qn 17)),Qa (Qv 21) (Qf 6 true (Qn 20)),Qa (Qv 8) (Q3 [(Qr Qu 0),(Qr Qu 0),(Qr Qu 0),(Q1 (Qw #[])),(Q9 []),(Q9 [])]),Qa (Qv 7) (Qd (Qn 19)),Qa none (Ql 6 (Qn 8) (Qn 21))]
def Y12:MC:=.r0 X49
def X5a:=[Qa (Qv 22) (Qd (Qn 1)),Qa (Qv 23) (Qd (Qn 7)),Qa (Qv 24) (Qj 6 (Qn 22) (Qn 23)),Qa (Qv 25) (Qf 6 true (Qn 24)),Qa (Qv 9) (Q3 [(Qr Qu 0),(Qr Qu 0),(Qr Qu 0),(Q1 (Qw #[])),(Q9 []),(Q9 [])]),Qa none (Ql 6 (Qn 9) (Qn 25))]
def Y13:MC:=.r0 X5a
def X5b:=[Qa (Qv 26) (Qd (Qn 2)),Qa (Qv 27) (Qf 6 true (Qn 8)),Qa (Qv 28) (Qf 6 true (Qn 9)),Qa (Qv 29) (QC (Qn 26) [(Qn 27),(Qn 28)]),Qa (Qv 30) (QB (Qn 29))]
def Y14:MC:=.r0 X5b
def X5c:=[Qa (Qv 6) (Qd (Qo (Qp (Qq (Qs false)))))]
def Y15:MC:=.r0 X5c
def Y16:MC:=.seq Y12 (.seq Y13 (.seq Y14 (.cond (Qn 30) (.seq Y15 .ret) .skip)))
def X5d:=[Qa (Qv 31) (Qe Qt Qx (Qn 17) (Qo (Qp (Qq (Qr Qu 1))))),Qa (Qv 17) (Qd (Qn 31))]
def Y17:MC:=.r0 X5d
def Y18:MC:=.seq Wku (.blk 0 (.loop (.seq Wkv (.seq (.cond (Qn 18) .skip (Q6 0)) (.seq (.blk 1 Y16) Y17)))))
def X5e:=[Qa (Qv 6) (Qd (Qo (Qp (Qq (Qs true)))))]
def Y19:MC:=.r0 X5e
def Y2a:MC:=.seq (.seq Wks (.cond (Qn 14) (.seq Wkt .ret) .skip)) (.seq Y18 (.seq Y19 .ret))
def X5f:MC:=.seq Wkr Y2a
attribute [go_sem] Ysu Ysv Ysw Ysx Ysy X49 X5a X5b X5c X5d X5e
theorem Wxp:KK QP 46 f46 [] X5f [(Qy 6)] 32:=by refine⟨func46,?_,?_,?_,?_⟩<;>kernel_rfl
theorem Wkw:Xaa QP 46=true:=by kernel_rfl
theorem Wkx (h:GI QP gp [(Qy 6)] res 32 X5f args):Does QP gp 46 args res:=Wxp.i Wkw h
def Ysz:=[Qa (Qv 1) (Q2 (Qn 0)),Qa (Qv 2) (Qd (Qo (Qp (Qq (Qr Qu 0))))),Qa (Qv 3) (Qd (Qo (Qp (Qq (Qr Qu 0)))))]
def Wky:MC:=.r0 Ysz
def Ys0:=[Qa (Qv 4) (Qf 2 true (Qn 1)),Qa (Qv 5) (Qh 72 [(Qn 4)]),Qa (Qv 6) (Qh 71 [(Qn 5)]),Qa (Qv 7) (Qi (Qn 6) 0),Qa (Qv 8) (Qi (Qn 6) 1),Qa (Qv 2) (Qd (Qn 7)),Qa (Qv 3) (Qd (Qn 8))]
def Wkz:MC:=.r0 Ys0
def Ys1:MC:=.seq Wky (.seq Wkz .ret)
attribute [go_sem] Ysz Ys0
theorem Wxq:KK QP 47 f47 [1] Ys1 [(Qy 2),(Qy 3)] 9:=by refine⟨func47,?_,?_,?_,?_⟩<;>kernel_rfl
theorem Wk0:Xaa QP 47=true:=by kernel_rfl
theorem Wk1 (h:GI QP gp [(Qy 2),(Qy 3)] res 9 Ys1 args):Does QP gp 47 args res:=Wxq.i Wk0 h
def Xia:=[Qa (Qv 2) (Q2 (Qn 0)),Qa (Qv 4) (Qd (Qo (Qp A.nil))),Qa (Qv 5) (Qd (Qo (Qp (Qq (Qr Qu 0)))))]
def Wk2:MC:=.r0 Xia
def Xib:=[Qa (Qv 12) (Qf 2 true (Qn 2)),Qa (Qv 13) (Qd (Qn 1)),Qa (Qv 14) (Qh 74 [(Qn 12),(Qn 13)]),Qa (Qv 11) (Qd (Qn 14)),Qa (Qv 15) (Qi (Qn 11) 0),Qa (Qv 16) (Qi (Qn 11) 1),Qa (Qv 6) (Q3 [(Qr Qu 0),(Qr Qu 0),(Qr Qu 0),(Q1 (Qw #[])),(Q9 []),(Q9 []),(Qr Qu 0)]),Qa none (Ql 7 (Qn 6) (Qn 15)),Qa (Qv 7) (Qd (Qn 16))]
def Wk3:MC:=.r0 Xib
def Xic:=[Qa (Qv 8) (Qd (Qo (Qp A.nil)))]
def Wk4:MC:=.r0 Xic
def Xid:=[Qa (Qv 17) (Qf 7 true (Qn 6)),Qa (Qv 18) (Qh 75 [(Qn 17)]),Qa (Qv 19) (Qk Qt (Qn 18)),Qa (Qv 20) (Qd (Qo (Qp (Qq (Qr Qu 0)))))]
def Wk5:MC:=.r0 Xid
def Xg5:=[Qa (Qv 21) (Qe Qt Q0 (Qn 20) (Qn 19))]
def Wk6:MC:=.r0 Xg5
def Xie:=[Qa (Qv 22) (Qj 4 (Qn 18) (Qn 20)),Qa (Qv 23) (Qf 4 true (Qn 22)),Qa (Qv 10) (Q3 [(Qr Qu 0),(Qr Qu 0),(Q1 (Qw #[])),(Qr Qu 0)]),Qa none (Ql 4 (Qn 10) (Qn 23))]
def Wk7:MC:=.r0 Xie
def Xif:=[Qa (Qv 24) (Qd (Qn 8)),Qa (Qv 25) (Qg 0 (Qn 10)),Qa (Qv 26) (Qf 3 true (Qn 25)),Qa (Qv 27) (Q5 3 [(Qr Qu 0),(Qr Qu 0),(Q1 (Qw #[]))] 1 [(0,(Qn 26))]),Qa (Qv 28) (QG 39 3 32 (Qn 24) (Qn 27)),Qa (Qv 8) (Qd (Qn 28))]
def Wk8:MC:=.r0 Xif
def Xe6:=[Qa (Qv 29) (Qe Qt Qx (Qn 20) (Qo (Qp (Qq (Qr Qu 1))))),Qa (Qv 20) (Qd (Qn 29))]
def Y2b:MC:=.r0 Xe6
def Y2c:MC:=.seq Wk6 (.seq (.cond (Qn 21) .skip (Q6 0)) (.seq (.blk 1 (.seq Wk7 Wk8)) Y2b))
def Xe7:=[Qa (Qv 30) (Qd (Qn 8)),Qa (Qv 31) (Qd (Qn 7)),Qa (Qv 4) (Qd (Qn 30)),Qa (Qv 5) (Qd (Qn 31))]
def Y2d:MC:=.r0 Xe7
def Y2e:MC:=.seq Wk4 (.seq (.seq Wk5 (.blk 0 (.loop Y2c))) (.seq Y2d .ret))
def X5g:MC:=.seq Wk2 (.seq Wk3 Y2e)
theorem Wxr:KK QP 50 f50 [2] X5g [(Qy 4),(Qy 5)] 32:=by refine⟨func50,?_,?_,?_,?_⟩<;>kernel_rfl
theorem Wk9:Xaa QP 50=true:=by kernel_rfl
theorem Wla (h:GI QP gp [(Qy 4),(Qy 5)] res 32 X5g args):Does QP gp 50 args res:=Wxr.i Wk9 h
def Xbm:=[Qa (Qv 2) (Q2 (Qn 0)),Qa (Qv 4) (Qd (Qo (Qp A.nil))),Qa (Qv 5) (Qd (Qo (Qp (Qq (Qr Qu 0)))))]
def Wlb:MC:=.r0 Xbm
def Xbn:=[Qa (Qv 12) (Qf 2 true (Qn 2)),Qa (Qv 13) (Qd (Qn 1)),Qa (Qv 14) (Qh 74 [(Qn 12),(Qn 13)]),Qa (Qv 11) (Qd (Qn 14)),Qa (Qv 15) (Qi (Qn 11) 0),Qa (Qv 16) (Qi (Qn 11) 1),Qa (Qv 6) (Q3 [(Qr Qu 0),(Qr Qu 0),(Qr Qu 0),(Q1 (Qw #[])),(Q9 []),(Q9 []),(Qr Qu 0)]),Qa none (Ql 7 (Qn 6) (Qn 15)),Qa (Qv 7) (Qd (Qn 16))]
def Wlc:MC:=.r0 Xbn
def Xbo:=[Qa (Qv 17) (Qd (Qn 7)),Qa (Qv 18) (Qe Qt Qz (Qn 17) (Qo (Qp (Qq (Qr Qu 0))))),Qa (Qv 19) (Qd (Qn 18)),Qb 19 true (Qv 20),Qa (Qv 20) (Qg 0 (Qn 6)),Qb 19 true (Qv 21),Qa (Qv 21) (Qg 0 (Qn 20)),Qb 19 true (Qv 22),Qa (Qv 22) (Qf 1 false (Qn 21)),Qb 19 true (Qv 23),Qa (Qv 23) (Qe Qt Qz (Qn 22) (Qo (Qp (Qq (Qr Qu 1))))),Qa (Qv 24) (Qm (Qn 19) (Qn 23) (Qo (Qp (Qq (Qs false)))))]
def Wld:MC:=.r0 Xbo
def Xbp:=[Qa (Qv 25) (Qg 0 (Qn 6)),Qa (Qv 26) (Qg 5 (Qn 25)),Qa (Qv 27) (Qf 1 false (Qn 26)),Qa (Qv 28) (Qh 76 [(Qn 27)]),Qa (Qv 29) (Qd (Qn 7)),Qa (Qv 4) (Qd (Qn 28)),Qa (Qv 5) (Qd (Qn 29))]
def Wle:MC:=.r0 Xbp
def Xbq:=[Qa (Qv 8) (Qd (Qo (Qp A.nil)))]
def Wlf:MC:=.r0 Xbq
def Xa0:=[Qa (Qv 30) (Qf 7 true (Qn 6)),Qa (Qv 31) (Qh 75 [(Qn 30)]),Qa (Qv 32) (Qk Qt (Qn 31)),Qa (Qv 33) (Qd (Qo (Qp (Qq (Qr Qu 0)))))]
def Y2f:MC:=.r0 Xa0
def Xat:=[Qa (Qv 34) (Qe Qt Q0 (Qn 33) (Qn 32))]
def Y2g:MC:=.r0 Xat
def Xa1:=[Qa (Qv 35) (Qj 4 (Qn 31) (Qn 33)),Qa (Qv 36) (Qf 4 true (Qn 35)),Qa (Qv 10) (Q3 [(Qr Qu 0),(Qr Qu 0),(Q1 (Qw #[])),(Qr Qu 0)]),Qa none (Ql 4 (Qn 10) (Qn 36))]
def Y2h:MC:=.r0 Xa1
def Xa2:=[Qa (Qv 37) (Qd (Qn 8)),Qa (Qv 38) (Qg 3 (Qn 10)),Qa (Qv 39) (Qf 1 false (Qn 38)),Qa (Qv 40) (Q5 1 [(Qr Qu 0)] 1 [(0,(Qn 39))]),Qa (Qv 41) (QG 3 1 8 (Qn 37) (Qn 40)),Qa (Qv 8) (Qd (Qn 41))]
def Y2i:MC:=.r0 Xa2
def Xa3:=[Qa (Qv 42) (Qe Qt Qx (Qn 33) (Qo (Qp (Qq (Qr Qu 1))))),Qa (Qv 33) (Qd (Qn 42))]
def Y2j:MC:=.r0 Xa3
def Y2k:MC:=.seq Y2g (.seq (.cond (Qn 34) .skip (Q6 0)) (.seq (.blk 1 (.seq Y2h Y2i)) Y2j))
def Xa4:=[Qa (Qv 43) (Qd (Qn 8)),Qa (Qv 44) (Qd (Qn 7)),Qa (Qv 4) (Qd (Qn 43)),Qa (Qv 5) (Qd (Qn 44))]
def Y2l:MC:=.r0 Xa4
def Y2m:MC:=.seq Wlf (.seq (.seq Y2f (.blk 0 (.loop Y2k))) (.seq Y2l .ret))
def Y2n:MC:=.seq Wlc (.seq (.seq Wld (.cond (Qn 24) (.seq Wle .ret) .skip)) Y2m)
def Xtr:MC:=.seq Wlb Y2n
theorem Wlg:KK QP 51 f51 [2] Xtr [(Qy 4),(Qy 5)] 45:=by refine⟨func51,?_,?_,?_,?_⟩<;>kernel_rfl
theorem Ys2:Xaa QP 51=true:=by kernel_rfl
theorem Wlh (h:GI QP gp [(Qy 4),(Qy 5)] res 45 Xtr args):Does QP gp 51 args res:=Wlg.i Ys2 h
theorem Y2o (h:GT QP gp [(Qy 4),(Qy 5)] pre R 45 Xtr args):Tri QP gp 51 args pre R:=Wlg.t h
def Ys3:=[Qa (Qv 1) (Q2 (Qn 0)),Qa (Qv 2) (Qd (Qo (Qp (Qq (Qs false)))))]
def Wli:MC:=.r0 Ys3
def Ys4:=[Qa (Qv 8) (Qf 2 true (Qn 1)),Qa (Qv 9) (Qh 77 [(Qn 8)]),Qa (Qv 7) (Qd (Qn 9)),Qa (Qv 10) (Qi (Qn 7) 0),Qa (Qv 11) (Qi (Qn 7) 1),Qa (Qv 3) (Qd (Qn 10)),Qa (Qv 4) (Qd (Qn 11))]
def Wlj:MC:=.r0 Ys4
def Ys5:=[Qa (Qv 12) (Qd (Qn 3)),Qa (Qv 13) (Qk Qt (Qn 12)),Qa (Qv 14) (Qd (Qo (Qp (Qq (Qr Qu 0)))))]
def Wlk:MC:=.r0 Ys5
def Ys6:=[Qa (Qv 15) (Qe Qt Q0 (Qn 14) (Qn 13))]
def Wll:MC:=.r0 Ys6
def Ys7:=[Qa (Qv 16) (Qd (Qn 14)),Qa (Qv 17) (Qj 1 (Qn 12) (Qn 14)),Qa (Qv 18) (Qf 1 false (Qn 17)),Qa (Qv 5) (Qd (Qn 16)),Qa (Qv 6) (Qd (Qn 18))]
def Wlm:MC:=.r0 Ys7
def Ys8:=[Qa (Qv 19) (Qg 1 (Qn 1)),Qa (Qv 20) (Qf 1 false (Qn 19)),Qa (Qv 21) (Qd (Qn 5)),Qa (Qv 22) (Qj 6 (Qn 20) (Qn 21)),Qa (Qv 23) (Qg 5 (Qn 22)),Qa (Qv 24) (Qf 1 false (Qn 23)),Qa (Qv 25) (Qk Qt (Qn 24)),Qa (Qv 26) (Qe Qt QA (Qn 25) (Qo (Qp (Qq (Qr Qu 0)))))]
def Wln:MC:=.r0 Ys8
def Ys9:=[Qa (Qv 27) (Qd (Qn 6)),Qa (Qv 28) (Qe Qt Qx (Qn 27) (Qo (Qp (Qq (Qr Qu 1))))),Qa (Qv 6) (Qd (Qn 28))]
def Wlo:MC:=.r0 Ys9
def X5h:=[Qa (Qv 29) (Qd (Qn 6)),Qa (Qv 30) (Qe Qt QA (Qn 29) (Qo (Qp (Qq (Qr Qu 24)))))]
def Y2p:MC:=.r0 X5h
def X5i:=[Qa (Qv 2) (Qd (Qo (Qp (Qq (Qs true)))))]
def Y2q:MC:=.r0 X5i
def Y2r:MC:=.seq (.seq Wln (.cond (Qn 26) Wlo .skip)) (.seq Y2p (.cond (Qn 30) (.seq Y2q .ret) .skip))
def X5j:=[Qa (Qv 31) (Qe Qt Qx (Qn 14) (Qo (Qp (Qq (Qr Qu 1))))),Qa (Qv 14) (Qd (Qn 31))]
def Y2s:MC:=.r0 X5j
def Y2t:MC:=.seq Wll (.seq (.cond (Qn 15) .skip (Q6 0)) (.seq (.blk 1 (.seq Wlm Y2r)) Y2s))
def X5k:=[Qa (Qv 2) (Qd (Qo (Qp (Qq (Qs false)))))]
def Y2u:MC:=.r0 X5k
def Y2v:MC:=.seq Wlj (.seq (.seq Wlk (.blk 0 (.loop Y2t))) (.seq Y2u .ret))
def X5l:MC:=.seq Wli Y2v
attribute [go_sem] Ys3 Ys4 Ys5 Ys6 Ys7 Ys8 Ys9 X5h X5i X5j X5k
theorem Wxs:KK QP 54 f54 [1] X5l [(Qy 2)] 32:=by refine⟨func54,?_,?_,?_,?_⟩<;>kernel_rfl
theorem Wlp:Xaa QP 54=true:=by kernel_rfl
theorem Wlq (h:GI QP gp [(Qy 2)] res 32 X5l args):Does QP gp 54 args res:=Wxs.i Wlp h
def Yta:=[Qa (Qv 2) (Q2 (Qn 0)),Qa (Qv 4) (Qd (Qo (Qp (Qq (Qr Qu 0)))))]
def Wlr:MC:=.r0 Yta
def Ytb:=[Qa (Qv 11) (Qf 2 true (Qn 2)),Qa (Qv 12) (Qh 81 [(Qn 11)]),Qa (Qv 10) (Qd (Qn 12)),Qa (Qv 13) (Qi (Qn 10) 0),Qa (Qv 14) (Qi (Qn 10) 1),Qa (Qv 5) (Qd (Qn 13)),Qa (Qv 6) (Qd (Qn 14))]
def Wls:MC:=.r0 Ytb
def Ytc:=[Qa (Qv 7) (Qd (Qo (Qp (Qq (Qr Qu 0)))))]
def Wlt:MC:=.r0 Ytc
def Ytd:=[Qa (Qv 15) (Qd (Qn 5)),Qa (Qv 16) (Qk Qt (Qn 15)),Qa (Qv 17) (Qd (Qo (Qp (Qq (Qr Qu 0)))))]
def Wlu:MC:=.r0 Ytd
def Yte:=[Qa (Qv 18) (Qe Qt Q0 (Qn 17) (Qn 16))]
def Wlv:MC:=.r0 Yte
def Ytf:=[Qa (Qv 19) (Qd (Qn 17)),Qa (Qv 20) (Qj 1 (Qn 15) (Qn 17)),Qa (Qv 21) (Qf 1 false (Qn 20)),Qa (Qv 8) (Qd (Qn 19)),Qa (Qv 9) (Qd (Qn 21))]
def Wlw:MC:=.r0 Ytf
def Ytg:=[Qa (Qv 22) (Qd (Qn 1)),Qa (Qv 23) (Qd (Qn 8)),Qa (Qv 24) (Qj 1 (Qn 22) (Qn 23)),Qa (Qv 25) (Qf 1 false (Qn 24)),Qa (Qv 26) (Qe Qt QA (Qn 25) (Qo (Qp (Qq (Qr Qu 0)))))]
def Wlx:MC:=.r0 Ytg
def X5m:=[Qa (Qv 9) (Qd (Qo (Qp (Qq (Qr Qu 1)))))]
def Y2w:MC:=.r0 X5m
def X5n:=[Qa (Qv 27) (Qd (Qn 7)),Qa (Qv 28) (Qd (Qn 9)),Qa (Qv 29) (Qe Qt Qx (Qn 27) (Qn 28)),Qa (Qv 7) (Qd (Qn 29))]
def Y2x:MC:=.r0 X5n
def Y2y:MC:=.seq Wlw (.seq (.seq Wlx (.cond (Qn 26) Y2w .skip)) Y2x)
def X5o:=[Qa (Qv 30) (Qe Qt Qx (Qn 17) (Qo (Qp (Qq (Qr Qu 1))))),Qa (Qv 17) (Qd (Qn 30))]
def Y2z:MC:=.r0 X5o
def Y20:MC:=.seq Wlu (.blk 0 (.loop (.seq Wlv (.seq (.cond (Qn 18) .skip (Q6 0)) (.seq (.blk 1 Y2y) Y2z)))))
def X5p:=[Qa (Qv 31) (Qd (Qn 7)),Qa (Qv 4) (Qd (Qn 31))]
def Y21:MC:=.r0 X5p
def Y22:MC:=.seq Wls (.seq Wlt (.seq Y20 (.seq Y21 .ret)))
def X5q:MC:=.seq Wlr Y22
attribute [go_sem] Yta Ytb Ytc Ytd Yte Ytf Ytg X5m X5n X5o X5p
theorem Wxt:KK QP 56 f56 [2] X5q [(Qy 4)] 32:=by refine⟨func56,?_,?_,?_,?_⟩<;>kernel_rfl
theorem Wly:Xaa QP 56=true:=by kernel_rfl
theorem Wlz (h:GI QP gp [(Qy 4)] res 32 X5q args):Does QP gp 56 args res:=Wxt.i Wly h
def Yth:=[Qa (Qv 1) (QZ (Qn 0)),Qa (Qv 2) (Qd (Qo (Qp (Qq QH))))]
def Wl0:MC:=.r0 Yth
def Yti:=[Qa (Qv 3) (QO (Go.Fn.func 82) [(Qn 1)]),Qa (Qv 2) (Qd (Qn 3))]
def Wl1:MC:=.r0 Yti
def Ytj:MC:=.seq Wl0 (.seq Wl1 .ret)
attribute [go_sem] Yth Yti
theorem Wxu:KK QP 57 f57 [] Ytj [(Qy 2)] 4:=by refine⟨func57,?_,?_,?_,?_⟩<;>kernel_rfl
theorem Wl2:Xaa QP 57=true:=by kernel_rfl
theorem Y23 (h:GT QP gp [(Qy 2)] pre R 4 Ytj args):Tri QP gp 57 args pre R:=Wxu.t h
-- f58: trC none
def Ytk:=[Qa (Qv 2) (Qd (Qo (Qp (Qq (Qs false)))))]
def Wl3:MC:=.r0 Ytk
def Ytl:=[Qa (Qv 7) (Qd (Qn 0)),Qa (Qv 8) (MOp.rng (Qn 7))]
def Wl4:MC:=.r0 Ytl
def Ytm:=[Qa (Qv 9) (MOp.nxt (Qn 8)),Qa (Qv 10) (Qi (Qn 9) 0)]
def Wl5:MC:=.r0 Ytm
def Ytn:=[Qa (Qv 11) (Qi (Qn 9) 1),Qa (Qv 12) (Qi (Qn 9) 2),Qa (Qv 3) (Qd (Qn 11)),Qa (Qv 4) (Qd (Qn 12))]
def Wl6:MC:=.r0 Ytn
def Yto:=[Qa (Qv 14) (Qd (Qn 0)),Qa (Qv 15) (Qd (Qn 3)),Qa (Qv 16) (QX (Qn 14) (Qv (Qn 15)) none),Qa (Qv 17) (Qh 93 [(Qn 16)]),Qa (Qv 13) (Qd (Qn 17)),Qa (Qv 18) (Qi (Qn 13) 0),Qa (Qv 19) (Qi (Qn 13) 1),Qa (Qv 5) (Qd (Qn 18)),Qa (Qv 6) (Qd (Qn 19))]
def Wl7:MC:=.r0 Yto
def Ytp:=[Qa (Qv 20) (Qd (Qn 4)),Qa (Qv 21) (Qe Qt Qz (Qn 20) (Qo (Qp (Qq (Qr QY 65533))))),Qa (Qv 22) (Qd (Qn 21)),Qb 22 true (Qv 23),Qa (Qv 23) (Qd (Qn 6)),Qb 22 true (Qv 24),Qa (Qv 24) (Qe Qt Qz (Qn 23) (Qo (Qp (Qq (Qr Qu 1))))),Qa (Qv 25) (Qm (Qn 22) (Qn 24) (Qo (Qp (Qq (Qs false)))))]
def Wl8:MC:=.r0 Ytp
def Ytq:=[Qa (Qv 2) (Qd (Qo (Qp (Qq (Qs false)))))]
def Wl9:MC:=.r0 Ytq
def Y24:MC:=.seq Wl6 (.seq Wl7 (.seq Wl8 (.cond (Qn 25) (.seq Wl9 .ret) .skip)))
def X5r:=[Qa (Qv 2) (Qd (Qo (Qp (Qq (Qs true)))))]
def Y25:MC:=.r0 X5r
def Y26:MC:=.seq (.seq Wl4 (.blk 0 (.loop (.seq Wl5 (.seq (.cond (Qn 10) .skip (Q6 0)) (.blk 1 Y24)))))) (.seq Y25 .ret)
def X5s:MC:=.seq Wl3 Y26
attribute [go_sem] Ytk Ytl Ytm Ytn Yto Ytp Ytq X5r
theorem Wxv:KK QP 63 f63 [] X5s [(Qy 2)] 26:=by refine⟨func63,?_,?_,?_,?_⟩<;>kernel_rfl
theorem Wma:Xaa QP 63=true:=by kernel_rfl
theorem Wmb (h:GI QP gp [(Qy 2)] res 26 X5s args):Does QP gp 63 args res:=Wxv.i Wma h
def Ytr:=[Qa (Qv 2) (Qd (Qo (Qp (Qq (Qr Qu 0))))),Qa (Qv 3) (Qd (Qo (Qp (Qq (Qr Qu 0)))))]
def Wmc:MC:=.r0 Ytr
def Yts:=[Qa (Qv 4) (Q3 [(Qr Qu 0),(Qr Qu 0)])]
def Wmd:MC:=.r0 Yts
def Ytt:=[Qa (Qv 5) (Qd (Qn 0)),Qa (Qv 6) (QJ 176 (Qn 4)),Qa (Qv 7) (Qh 68 [(Qn 5),(Qn 6)])]
def Wme:MC:=.r0 Ytt
def Ytu:=[Qa (Qv 8) (Qg 0 (Qn 4)),Qa (Qv 9) (Qf 1 false (Qn 8)),Qa (Qv 10) (Qg 1 (Qn 4)),Qa (Qv 11) (Qf 1 false (Qn 10)),Qa (Qv 2) (Qd (Qn 9)),Qa (Qv 3) (Qd (Qn 11))]
def Wmf:MC:=.reg true Ytu
def Ytv:=[Qa (Qv 2) (Qd (Qo (Qp (Qq (Qr Qu 0))))),Qa (Qv 3) (Qd (Qo (Qp (Qq (Qr Qu 0)))))]
def Wmg:MC:=.r0 Ytv
def Y27:MC:=.seq Wmd (.seq (.seq Wme (.cond (Qn 7) (.seq Wmf .ret) .skip)) (.seq Wmg .ret))
def X5t:MC:=.seq Wmc Y27
attribute [go_sem] Ytr Yts Ytt Ytu Ytv
theorem Wxw:KK QP 71 f71 [] X5t [(Qy 2),(Qy 3)] 12:=by refine⟨func71,?_,?_,?_,?_⟩<;>kernel_rfl
theorem Wmh:Xaa QP 71=true:=by kernel_rfl
theorem Wmi (h:GI QP gp [(Qy 2),(Qy 3)] res 12 X5t args):Does QP gp 71 args res:=Wxw.i Wmh h
def Ytw:=[Qa (Qv 1) (Q2 (Qn 0)),Qa (Qv 2) (Q3 [QW])]
def Wmj:MC:=.r0 Ytw
def Ytx:=[Qa (Qv 6) (Qg 1 (Qn 1)),Qa (Qv 7) (Qf 1 false (Qn 6)),Qa (Qv 8) (Qk Qt (Qn 7)),Qa (Qv 9) (Qe Qt QA (Qn 8) (Qo (Qp (Qq (Qr Qu 200))))),Qa (Qv 5) (Qd (Qn 9))]
def Wmk:MC:=.r0 Ytx
def Yty:=[Qa (Qv 10) (Q4 [(Qr Qu 0),(Qr Qu 0)] [(0,(1,(Qo (Qp (Qq (Qr Qu 0)))))),(1,(1,(Qo (Qp (Qq (Qr Qu 71))))))]),Qa (Qv 11) (QJ 175 (Qn 10)),Qa none (Ql 1 (Qn 2) (Qn 11))]
def Wml:MC:=.r0 Yty
def Ytz:=[Qa (Qv 13) (Qf 2 true (Qn 1)),Qa (Qv 14) (Qg 0 (Qn 1)),Qa (Qv 15) (Qf 1 false (Qn 14)),Qa (Qv 16) (Qh 108 [(Qn 13),(Qn 15)]),Qa (Qv 17) (QB (Qn 16)),Qa (Qv 12) (Qd (Qn 17))]
def Wmm:MC:=.r0 Ytz
def Yt0:=[Qa (Qv 18) (Q4 [(Qr Qu 0),(Qr Qu 0)] [(0,(1,(Qo (Qp (Qq (Qr Qu (-1))))))),(1,(1,(Qo (Qp (Qq (Qr Qu 70))))))]),Qa (Qv 19) (QJ 175 (Qn 18)),Qa none (Ql 1 (Qn 2) (Qn 19))]
def Wmn:MC:=.r0 Yt0
def Y28:MC:=.seq Wmk (.cond (Qn 5) (.seq Wml .ret) (.seq Wmm (.cond (Qn 12) (.seq Wmn .ret) .skip)))
def X5u:=[Qa (Qv 20) (Qf 2 true (Qn 1)),Qa (Qv 21) (Qh 109 [(Qn 20)])]
def Y29:MC:=.r0 X5u
def X5v:=[Qa (Qv 3) (Qd (Qn 22))]
def Y3a:MC:=.r0 X5v
def X5w:=[Qa (Qv 4) (Q3 [(Qr Qu 0),(Qr Qu 0),(Qr Qu 0),(Q1 (Qw #[])),(Q9 []),(Q9 []),(Qr Qu 0)]),Qa none (Ql 7 (Qn 4) (Qn 23))]
def Y3b:MC:=.r0 X5w
def X5x:=[Qa (Qv 24) (Qf 7 true (Qn 4)),Qa (Qv 25) (Qh 110 [(Qn 24)]),Qa (Qv 26) (QB (Qn 25))]
def Y3c:MC:=.r0 X5x
def X5y:=[Qa (Qv 27) (Qd (Qn 3)),Qa (Qv 28) (Q4 [(Qr Qu 0),(Qr Qu 0)] [(0,(1,(Qn 27))),(1,(1,(Qo (Qp (Qq (Qr Qu 70))))))]),Qa (Qv 29) (QJ 175 (Qn 28)),Qa none (Ql 1 (Qn 2) (Qn 29))]
def Y3d:MC:=.r0 X5y
def Y3e:MC:=.rf (Qn 21) [22,23] (.seq Y3a Y3b) (.blk 2 (.seq Y3c (.cond (Qn 26) (.seq Y3d .ret) .skip)))
def X5z:=[Qa none (Ql 1 (Qn 2) (Qo (Qp (Qq QW))))]
def Y3f:MC:=.r0 X5z
def Y3g:MC:=.seq (.blk 0 Y28) (.seq (.seq Y29 (.blk 1 Y3e)) (.seq Y3f .ret))
def X50:MC:=.seq Wmj Y3g
attribute [go_sem] Ytw Ytx Yty Ytz Yt0 X5u X5v X5w X5x X5y X5z
theorem Wxx:KK QP 72 f72 [1] X50 [(QE 2 1 false)] 30:=by refine⟨func72,?_,?_,?_,?_⟩<;>kernel_rfl
theorem Wmo:Xaa QP 72=true:=by kernel_rfl
theorem Wmp (h:GI QP gp [(QE 2 1 false)] res 30 X50 args):Does QP gp 72 args res:=Wxx.i Wmo h
def Yt1:=[Qa (Qv 2) (Q2 (Qn 0)),Qa (Qv 4) (Q3 [(Qr Qu 0),(Qr Qu 0),(Qr Qu 0),(Q1 (Qw #[])),(Q9 []),(Q9 []),(Qr Qu 0)]),Qa (Qv 5) (Qd (Qo (Qp (Qq (Qr Qu 0)))))]
def Wmq:MC:=.r0 Yt1
def Yt2:=[Qa (Qv 6) (Qf 2 true (Qn 2)),Qa (Qv 7) (Qd (Qn 1)),Qa (Qv 8) (Qh 108 [(Qn 6),(Qn 7)]),Qa (Qv 9) (QB (Qn 8))]
def Wmr:MC:=.r0 Yt2
def Yt3:=[Qa (Qv 10) (Q4 [(Qr Qu 0),(Qr Qu 0),(Qr Qu 0),(Q1 (Qw #[])),(Q9 []),(Q9 []),(Qr Qu 0)] []),Qa none (Ql 7 (Qn 4) (Qn 10)),Qa (Qv 5) (Qd (Qo (Qp (Qq (Qr Qu 2)))))]
def Wms:MC:=.r0 Yt3
def Yt4:=[Qa (Qv 11) (Qg 1 (Qn 2)),Qa (Qv 12) (Qf 1 false (Qn 11)),Qa (Qv 13) (Qd (Qn 1)),Qa (Qv 14) (Qj 6 (Qn 12) (Qn 13)),Qa (Qv 15) (Qf 6 true (Qn 14)),Qa (Qv 16) (Qg 1 (Qn 2)),Qa (Qv 17) (Qf 1 false (Qn 16)),Qa (Qv 18) (Qk Qt (Qn 17)),Qa (Qv 19) (Q4 [(Qr Qu 0),(Qr Qu 0),(Qr Qu 0),(Q1 (Qw #[])),(Q9 []),(Q9 []),(Qr Qu 0)] [(0,(6,(Qn 15))),(6,(1,(Qn 18)))]),Qa none (Ql 7 (Qn 4) (Qn 19)),Qa (Qv 5) (Qd (Qo (Qp (Qq (Qr Qu 0)))))]
def Wmt:MC:=.reg true Yt4
def X51:MC:=.seq Wmq (.seq (.seq Wmr (.cond (Qn 9) (.seq Wms .ret) .skip)) (.seq Wmt .ret))
attribute [go_sem] Yt1 Yt2 Yt3 Yt4
theorem Wxy:KK QP 74 f74 [2] X51 [(QE 4 7 true),(Qy 5)] 20:=by refine⟨func74,?_,?_,?_,?_⟩<;>kernel_rfl
theorem Wmu:Xaa QP 74=true:=by kernel_rfl
theorem Wmv (h:GI QP gp [(QE 4 7 true),(Qy 5)] res 20 X51 args):Does QP gp 74 args res:=Wxy.i Wmu h
def Yt5:=[Qa (Qv 1) (Q2 (Qn 0)),Qa (Qv 2) (Qd (Qo (Qp A.nil)))]
def Wmw:MC:=.r0 Yt5
def Yt6:=[Qa (Qv 6) (Qg 0 (Qn 1)),Qa (Qv 7) (Qg 0 (Qn 6)),Qa (Qv 8) (Qf 1 false (Qn 7)),Qa (Qv 9) (Qe Qt Q8 (Qn 8) (Qo (Qp (Qq (Qr Qu 2))))),Qa (Qv 10) (Qd (Qn 9)),Qb 10 false (Qv 11),Qa (Qv 11) (Qf 7 true (Qn 1)),Qb 10 false (Qv 12),Qa (Qv 12) (Qh 113 [(Qn 11)]),Qb 10 false (Qv 13),Qa (Qv 13) (QB (Qn 12)),Qa (Qv 14) (Qm (Qn 10) (Qo (Qp (Qq (Qs true)))) (Qn 13))]
def Wmx:MC:=.r0 Yt6
def Yt7:=[Qa (Qv 2) (Qd (Qo (Qp A.nil)))]
def Wmy:MC:=.r0 Yt7
def Yt8:=[Qa (Qv 3) (Qd (Qo (Qp A.nil)))]
def Wmz:MC:=.r0 Yt8
def Yt9:=[Qa (Qv 15) (Qg 0 (Qn 1)),Qa (Qv 16) (Qg 4 (Qn 15)),Qa (Qv 17) (Qf 1 false (Qn 16)),Qa (Qv 18) (Qk Qt (Qn 17)),Qa (Qv 19) (Qd (Qo (Qp (Qq (Qr Qu 0)))))]
def Wm0:MC:=.r0 Yt9
def X52:=[Qa (Qv 20) (Qe Qt Q0 (Qn 19) (Qn 18))]
def Y3h:MC:=.r0 X52
def X53:=[Qa (Qv 21) (Qd (Qn 19)),Qa (Qv 22) (Qj 3 (Qn 17) (Qn 19)),Qa (Qv 23) (Qf 3 true (Qn 22)),Qa (Qv 5) (Q3 [(Qr Qu 0),(Qr Qu 0),(Q1 (Qw #[]))]),Qa (Qv 4) (Qd (Qn 21)),Qa none (Ql 3 (Qn 5) (Qn 23))]
def Y3i:MC:=.r0 X53
def X54:=[Qa (Qv 24) (Qd (Qn 3)),Qa (Qv 25) (Qf 3 true (Qn 5)),Qa (Qv 26) (Qg 0 (Qn 1)),Qa (Qv 27) (Qg 5 (Qn 26)),Qa (Qv 28) (Qf 1 false (Qn 27)),Qa (Qv 29) (Qd (Qn 4)),Qa (Qv 30) (Qj 1 (Qn 28) (Qn 29)),Qa (Qv 31) (Qf 1 false (Qn 30)),Qa (Qv 32) (Q4 [(Qr Qu 0),(Qr Qu 0),(Q1 (Qw #[])),(Qr Qu 0)] [(0,(3,(Qn 25))),(3,(1,(Qn 31)))]),Qa (Qv 33) (Q5 4 [(Qr Qu 0),(Qr Qu 0),(Q1 (Qw #[])),(Qr Qu 0)] 1 [(0,(Qn 32))]),Qa (Qv 34) (QG 131 4 40 (Qn 24) (Qn 33)),Qa (Qv 3) (Qd (Qn 34))]
def Y3j:MC:=.reg true X54
def X55:=[Qa (Qv 35) (Qe Qt Qx (Qn 19) (Qo (Qp (Qq (Qr Qu 1))))),Qa (Qv 19) (Qd (Qn 35))]
def Y3k:MC:=.r0 X55
def Y3l:MC:=.seq Y3h (.seq (.cond (Qn 20) .skip (Q6 0)) (.seq (.blk 1 (.seq Y3i Y3j)) Y3k))
def X56:=[Qa (Qv 36) (Qd (Qn 3)),Qa (Qv 37) (Qh 114 [(Qn 36),(Qo (Qp (Qq (QS (Go.Fn.func 115) []))))])]
def Y3m:MC:=.r0 X56
def X57:=[Qa (Qv 38) (Qd (Qn 3)),Qa (Qv 2) (Qd (Qn 38))]
def Y3n:MC:=.r0 X57
def Y3o:MC:=.seq (.seq Wm0 (.blk 0 (.loop Y3l))) (.seq Y3m (.seq Y3n .ret))
def Y3p:MC:=.seq (.seq Wmx (.cond (Qn 14) (.seq Wmy .ret) .skip)) (.seq Wmz Y3o)
def X58:MC:=.seq Wmw Y3p
attribute [go_sem] Yt5 Yt6 Yt7 Yt8 Yt9 X52 X53 X54 X55 X56 X57
theorem Wxz:KK QP 75 f75 [1] X58 [(Qy 2)] 39:=by refine⟨func75,?_,?_,?_,?_⟩<;>kernel_rfl
theorem Wm1:Xaa QP 75=true:=by kernel_rfl
theorem Wm2 (h:GI QP gp [(Qy 2)] res 39 X58 args):Does QP gp 75 args res:=Wxz.i Wm1 h
def Xb1:=[Qa (Qv 2) (Qd (Qo (Qp A.nil)))]
def Wm3:MC:=.r0 Xb1
def Xb2:=[Qa (Qv 3) (Qd (Qn 0)),Qa (Qv 4) (MOp.nilq NK.sl false (Qn 3))]
def Wm4:MC:=.r0 Xb2
def Xch:=[Qa (Qv 2) (Qd (Qo (Qp A.nil)))]
def Wm5:MC:=.r0 Xch
def Xci:=[Qa (Qv 5) (MOp.bslO 1 [(Qr Qu 0)] 0 []),Qa (Qv 6) (Qd (Qn 0)),Qa (Qv 7) (QG 3 1 8 (Qn 5) (Qn 6)),Qa (Qv 2) (Qd (Qn 7))]
def Wm6:MC:=.r0 Xci
def Xts:MC:=.seq Wm3 (.seq (.seq Wm4 (.cond (Qn 4) (.seq Wm5 .ret) .skip)) (.seq Wm6 .ret))
theorem Wm7:KK QP 76 f76 [5] Xts [(Qy 2)] 8:=by refine⟨func76,?_,?_,?_,?_⟩<;>kernel_rfl
theorem Yua:Xaa QP 76=true:=by kernel_rfl
theorem Wm8 (h:GI QP gp [(Qy 2)] res 8 Xts args):Does QP gp 76 args res:=Wm7.i Yua h
theorem Y3q (h:GT QP gp [(Qy 2)] pre R 8 Xts args):Tri QP gp 76 args pre R:=Wm7.t h
def Yub:=[Qa (Qv 7) (Qf 1 false (Qn 1)),Qa (Qv 8) (Qh 83 [(Qn 7),(Qo (Qp (Qq (Qr Qu 0))))]),Qa (Qv 3) (Qd (Qn 8))]
def Wm9:MC:=.r0 Yub
def Yuc:=[Qa (Qv 10) (Qd (Qn 3)),Qa (Qv 11) (QU 141 true (Qp (Qq (Q1 (Qw #[])))) (Qn 10)),Qa (Qv 9) (Qd (Qn 11)),Qa (Qv 12) (Qi (Qn 9) 0),Qa (Qv 13) (Qi (Qn 9) 1),Qa (Qv 4) (Qd (Qn 12)),Qa (Qv 5) (Qd (Qn 13))]
def Wna:MC:=.r0 Yuc
def Yud:=[Qa (Qv 14) (Qd (Qn 5))]
def Wnb:MC:=.r0 Yud
def Yue:=[Qa (Qv 15) (Qd (Qn 0)),Qa (Qv 16) (Qd (Qn 4)),Qa (Qv 17) (Q5 1 [(Q1 (Qw #[]))] 1 [(0,(Qn 16))]),Qa (Qv 18) (Qh 84 [(Qo (Qp (Qq (Qr Qu 0)))),(Qo (Qp (Qq (Qr Qu (-1))))),(Qn 17)]),Qa (Qv 19) (QC (Qn 15) [(Qn 18)])]
def Wnc:MC:=.r0 Yue
def X59:=[Qa (Qv 20) (Qd (Qn 3)),Qa (Qv 21) (QU 145 false (V.agg [(Qq (Qr Qu 0)),(Qq (Q1 (Qw #[])))]) (Qn 20)),Qa (Qv 6) (Q3 [(Qr Qu 0),(Q1 (Qw #[]))]),Qa none (Ql 2 (Qn 6) (Qn 21))]
def Y3r:MC:=.r0 X59
def X6a:=[Qa (Qv 22) (Qg 1 (Qn 6)),Qa (Qv 23) (Qf 1 false (Qn 22)),Qa (Qv 24) (Qe Q7 Q8 (Qn 23) (Qo (Qp (Qq (Q1 (Qw #[])))))),Qa (Qv 25) (Qd (Qn 24)),Qb 25 true (Qv 26),Qa (Qv 26) (Qd (Qn 0)),Qb 25 true (Qv 27),Qa (Qv 27) (Qg 1 (Qn 6)),Qb 25 true (Qv 28),Qa (Qv 28) (Qf 1 false (Qn 27)),Qb 25 true (Qv 29),Qa (Qv 29) (Qe Q7 Qx (Qo (Qp (Qq (Q1 (Qw #[38]))))) (Qn 28)),Qb 25 true (Qv 30),Qa (Qv 30) (Q5 1 [(Q1 (Qw #[]))] 1 [(0,(Qn 29))]),Qb 25 true (Qv 31),Qa (Qv 31) (Qh 84 [(Qo (Qp (Qq (Qr Qu 0)))),(Qo (Qp (Qq (Qr Qu 0)))),(Qn 30)]),Qb 25 true (Qv 32),Qa (Qv 32) (QC (Qn 26) [(Qn 31)]),Qb 25 true (Qv 33),Qa (Qv 33) (QB (Qn 32)),Qa (Qv 34) (Qm (Qn 25) (Qn 33) (Qo (Qp (Qq (Qs false)))))]
def Y3s:MC:=.r0 X6a
def X6b:=[Qa (Qv 35) (Qf 1 false (Qn 1)),Qa (Qv 36) (Qd (Qn 0)),Qa (Qv 37) (Qh 85 [(Qn 35),(Qn 36),(Qo (Qp (Qq (Qr Qu 0)))),(Qo (Qp (Qq (Qr Qu 0))))])]
def Y3t:MC:=.r0 X6b
def Y3u:MC:=.seq (.seq Wna (.seq Wnb (.cond (Qn 14) (.seq Wnc .ret) .skip))) (.seq Y3r (.seq (.seq Y3s (.cond (Qn 34) .ret .skip)) Y3t))
def X6c:MC:=.seq Wm9 Y3u
attribute [go_sem] Yub Yuc Yud Yue X59 X6a X6b
theorem Wx0:KK QP 82 f82 [] X6c [] 38:=by refine⟨func82,?_,?_,?_,?_⟩<;>kernel_rfl
theorem Wnd:Xaa QP 82=true:=by kernel_rfl
theorem Xtt (h:GT QP gp [] pre R 38 X6c args):Tri QP gp 82 args pre R:=Wx0.t h
def Yuf:=[Qa (Qv 4) (Qd (Qo (Qp (Qq QW))))]
def Wne:MC:=.r0 Yuf
def Yug:=[Qa (Qv 8) (Qd (Qn 0)),Qa (Qv 9) (QF (Qn 8)),Qa (Qv 10) (Qg 0 (Qn 9)),Qa (Qv 11) (Qg 1 (Qn 10)),Qa (Qv 12) (Qf 1 false (Qn 11)),Qa (Qv 13) (Qd (Qn 1)),Qa (Qv 14) (Qj 6 (Qn 12) (Qn 13)),Qa (Qv 15) (Qg 5 (Qn 14)),Qa (Qv 16) (Qf 1 false (Qn 15)),Qa (Qv 17) (Qk Qt (Qn 16)),Qa (Qv 18) (Qe Qt Qz (Qn 17) (Qo (Qp (Qq (Qr Qu 0)))))]
def Wnf:MC:=.r0 Yug
def Yuh:=[Qa (Qv 19) QT,Qa (Qv 20) (Qd (Qn 0)),Qa (Qv 21) (QR (Go.Fn.func 120) (Qn 20)),Qa none (QL false [Qt] (Qn 19) (Qo (Qp (Qq (Qr Qu 0)))) (Qn 21)),Qa (Qv 22) (Qd (Qn 0)),Qa (Qv 23) (QR (Go.Fn.func 121) (Qn 22)),Qa none (QL false [Qt] (Qn 19) (Qo (Qp (Qq (Qr Qu 1)))) (Qn 23)),Qa (Qv 24) (Qd (Qn 0)),Qa (Qv 25) (QR (Go.Fn.func 122) (Qn 24)),Qa none (QL false [Qt] (Qn 19) (Qo (Qp (Qq (Qr Qu 2)))) (Qn 25)),Qa (Qv 26) (Qd (Qn 19)),Qa (Qv 5) (Qd (Qn 26))]
def Wng:MC:=.r0 Yuh
def Yui:=[Qa (Qv 27) (Qd (Qn 5)),Qa (Qv 28) (Qd (Qn 0)),Qa (Qv 29) (QF (Qn 28)),Qa (Qv 30) (Qg 0 (Qn 29)),Qa (Qv 31) (Qg 1 (Qn 30)),Qa (Qv 32) (Qf 1 false (Qn 31)),Qa (Qv 33) (Qd (Qn 1)),Qa (Qv 34) (Qj 6 (Qn 32) (Qn 33)),Qa (Qv 35) (Qg 0 (Qn 34)),Qa (Qv 36) (Qf 1 false (Qn 35)),Qa (Qv 37) (QV false (Qp (Qq QH)) false [Qt] (Qn 27) (Qn 36)),Qa (Qv 38) (Qd (Qn 1)),Qa (Qv 39) (QC (Qn 37) [(Qn 38)]),Qa (Qv 40) (QJ 141 (Qn 39)),Qa (Qv 4) (Qd (Qn 40))]
def Wnh:MC:=.r0 Yui
def X6d:=[Qa (Qv 6) (Qd (Qo (Qp (Qq (Q1 (Qw #[]))))))]
def Y3v:MC:=.r0 X6d
def X6e:=[Qa (Qv 41) (Qd (Qn 0)),Qa (Qv 42) (QF (Qn 41)),Qa (Qv 43) (Qg 2 (Qn 42)),Qa (Qv 44) (Qf 1 false (Qn 43)),Qa (Qv 45) (Qd (Qn 1)),Qa (Qv 46) (Qj 1 (Qn 44) (Qn 45)),Qa (Qv 47) (Qf 1 false (Qn 46)),Qa (Qv 7) (Qd (Qn 47))]
def Y3w:MC:=.r0 X6e
def X6f:=[Qa (Qv 48) (Qd (Qn 7)),Qa (Qv 49) (Qe Qt QA (Qn 48) (Qo (Qp (Qq (Qr Qu 0)))))]
def Y3x:MC:=.r0 X6f
def X6g:=[Qa (Qv 50) (Qd (Qn 7)),Qa (Qv 51) (Qh 65 [(Qn 50)]),Qa (Qv 52) (Qe Q7 Qx (Qo (Qp (Qq (Q1 (Qw #[97]))))) (Qn 51)),Qa (Qv 6) (Qd (Qn 52))]
def Y3y:MC:=.r0 X6g
def X6h:=[Qa (Qv 53) (Qd (Qn 0)),Qa (Qv 54) (QF (Qn 53)),Qa (Qv 55) (Qg 3 (Qn 54)),Qa (Qv 56) (Qf 1 false (Qn 55)),Qa (Qv 57) (Qd (Qn 1)),Qa (Qv 58) (QV false (Qp (Qq (Qs false))) false [Qt] (Qn 56) (Qn 57))]
def Y3z:MC:=.r0 X6h
def X6i:=[Qa (Qv 59) (Qd (Qn 6)),Qa (Qv 60) (Qe Q7 Qx (Qo (Qp (Qq (Q1 (Qw #[42]))))) (Qn 59)),Qa (Qv 61) (QJ 141 (Qn 60)),Qa (Qv 4) (Qd (Qn 61))]
def Y30:MC:=.r0 X6i
def X6j:=[Qa (Qv 62) (Qd (Qn 0)),Qa (Qv 63) (QF (Qn 62)),Qa (Qv 64) (Qg 3 (Qn 63)),Qa (Qv 65) (Qf 1 false (Qn 64)),Qa (Qv 66) (Qd (Qn 1)),Qa none (QL false [Qt] (Qn 65) (Qn 66) (Qo (Qp (Qq (Qs true)))))]
def Y31:MC:=.r0 X6j
def X6k:=[Qa (Qv 67) (Qd (Qn 1)),Qa (Qv 68) (Qd (Qn 6)),Qa (Qv 69) (Q4 [(Qr Qu 0),(Q1 (Qw #[]))] [(0,(1,(Qn 67))),(1,(1,(Qn 68)))]),Qa (Qv 70) (QJ 145 (Qn 69)),Qa (Qv 4) (Qd (Qn 70))]
def Y32:MC:=.r0 X6k
def Y33:MC:=.seq (.seq Y3z (.cond (Qn 58) (.seq Y30 .ret) .skip)) (.seq Y31 (.seq Y32 .ret))
def Y34:MC:=.seq (.seq Y3w (.seq Y3x (.cond (Qn 49) Y3y .skip))) Y33
def Y35:MC:=.seq (.seq Wnf (.cond (Qn 18) (.seq Wng (.seq Wnh .ret)) .skip)) (.seq Y3v Y34)
def X6l:MC:=.seq Wne Y35
attribute [go_sem] Yuf Yug Yuh Yui X6d X6e X6f X6g X6h X6i X6j X6k
theorem Wx1:KK QP 83 f83 [] X6l [(Qy 4)] 71:=by refine⟨func83,?_,?_,?_,?_⟩<;>kernel_rfl
theorem Xrf:Xaa QP 83=true:=by kernel_rfl
theorem Xpc (h:GT QP gp [(Qy 4)] pre R 71 X6l args):Tri QP gp 83 args pre R:=Wx1.t h
def Yuj:=[Qa (Qv 6) (Q3 [(Q1 (Qw #[])),(Qr Qu 0),(Qr Qu 0)])]
def Wni:MC:=.r0 Yuj
def Yuk:=[Qa (Qv 7) (Qd (Qn 0)),Qa (Qv 8) (Qh 123 [(Qn 7)]),Qa (Qv 9) (Qd (Qn 2)),Qa (Qv 10) (Qh 124 [(Qn 9),(Qo (Qp (Qq (Q1 (Qw #[])))))]),Qa (Qv 11) (Qe Q7 Qx (Qn 8) (Qn 10)),Qa (Qv 12) (Qd (Qn 0)),Qa (Qv 13) (Qd (Qn 1)),Qa (Qv 14) (Q4 [(Q1 (Qw #[])),(Qr Qu 0),(Qr Qu 0)] [(0,(1,(Qn 11))),(1,(1,(Qn 12))),(2,(1,(Qn 13)))]),Qa none (Ql 3 (Qn 6) (Qn 14))]
def Wnj:MC:=.r0 Yuk
def Yul:MC:=.seq Wni (.seq Wnj .ret)
attribute [go_sem] Yuj Yuk
theorem Wx2:KK QP 84 f84 [] Yul [(QE 6 3 true)] 15:=by refine⟨func84,?_,?_,?_,?_⟩<;>kernel_rfl
theorem Wnk:Xaa QP 84=true:=by kernel_rfl
theorem Wnl (h:GI QP gp [(QE 6 3 true)] res 15 Yul args):Does QP gp 84 args res:=Wx2.i Wnk h
def Yum:=[Qa (Qv 8) (Qd (Qo (Qp (Qq (Qs false)))))]
def Wnm:MC:=.r0 Yum
def Yun:=[Qa (Qv 18) (Qd (Qn 0)),Qa (Qv 19) (Qd (Qn 2)),Qa (Qv 20) (Qh 125 [(Qn 18),(Qn 19)]),Qa (Qv 9) (Qd (Qn 20))]
def Wnn:MC:=.r0 Yun
def Yuo:=[Qa (Qv 22) (Qd (Qn 0)),Qa (Qv 23) (QF (Qn 22)),Qa (Qv 24) (Qg 0 (Qn 23)),Qa (Qv 25) (Qf 2 true (Qn 24)),Qa (Qv 26) (Qd (Qn 2)),Qa (Qv 27) (Qh 51 [(Qn 25),(Qn 26)]),Qa (Qv 21) (Qd (Qn 27)),Qa (Qv 28) (Qi (Qn 21) 0),Qa (Qv 29) (Qi (Qn 21) 1),Qa (Qv 10) (Qd (Qn 28)),Qa (Qv 11) (Qd (Qn 29))]
def Wno:MC:=.r0 Yuo
def Yup:=[Qa (Qv 30) (Qd (Qn 10)),Qa (Qv 31) (Qk Qt (Qn 30)),Qa (Qv 32) (Qd (Qo (Qp (Qq (Qr Qu 0)))))]
def Wnp:MC:=.r0 Yup
def Yuq:=[Qa (Qv 33) (Qe Qt Q0 (Qn 32) (Qn 31))]
def Wnq:MC:=.r0 Yuq
def Yur:=[Qa (Qv 34) (Qd (Qn 32)),Qa (Qv 35) (Qj 1 (Qn 30) (Qn 32)),Qa (Qv 36) (Qf 1 false (Qn 35)),Qa (Qv 12) (Qd (Qn 34)),Qa (Qv 13) (Qd (Qn 36))]
def Wnr:MC:=.r0 Yur
def Yus:=[Qa (Qv 37) (Qd (Qn 0)),Qa (Qv 38) (Qd (Qn 13)),Qa (Qv 39) (Qh 83 [(Qn 37),(Qn 38)]),Qa (Qv 14) (Qd (Qn 39))]
def Wns:MC:=.r0 Yus
def X6m:=[Qa (Qv 15) (Qd (Qo (Qp (Qq (Qr Qu (-1))))))]
def Y36:MC:=.r0 X6m
def X6n:=[Qa (Qv 41) (Qd (Qn 14)),Qa (Qv 42) (QU 145 true (V.agg [(Qq (Qr Qu 0)),(Qq (Q1 (Qw #[])))]) (Qn 41)),Qa (Qv 40) (Qd (Qn 42)),Qa (Qv 43) (Qi (Qn 40) 0),Qa (Qv 44) (Qi (Qn 40) 1),Qa (Qv 16) (Q3 [(Qr Qu 0),(Q1 (Qw #[]))]),Qa none (Ql 2 (Qn 16) (Qn 43)),Qa (Qv 17) (Qd (Qn 44))]
def Y37:MC:=.r0 X6n
def X6o:=[Qa (Qv 45) (Qd (Qn 17))]
def Y38:MC:=.r0 X6o
def X6p:=[Qa (Qv 46) (Qg 0 (Qn 16)),Qa (Qv 47) (Qf 1 false (Qn 46)),Qa (Qv 15) (Qd (Qn 47))]
def Y39:MC:=.r0 X6p
def X6q:=[Qa (Qv 48) (Qd (Qn 1)),Qa (Qv 49) (Qd (Qn 3)),Qa (Qv 50) (Qd (Qn 15)),Qa (Qv 51) (Qd (Qn 9)),Qa (Qv 52) (Qd (Qn 12)),Qa (Qv 53) (Qj 1 (Qn 51) (Qn 52)),Qa (Qv 54) (Qf 1 false (Qn 53)),Qa (Qv 55) (Qd (Qn 14)),Qa (Qv 56) (MOp.inv "sigillary/emit.text" (Qn 55)),Qa (Qv 57) (Q5 1 [(Q1 (Qw #[]))] 2 [(0,(Qn 54)),(1,(Qn 56))]),Qc (Qv 58) (Qh 84 [(Qn 49),(Qn 50),(Qn 57)]),Qc (Qv 59) (QC (Qn 48) [(Qn 58)]),Qa (Qv 60) (QB (Qn 59))]
def Y4a:MC:=.reg true X6q
def X6r:=[Qa (Qv 8) (Qd (Qo (Qp (Qq (Qs false)))))]
def Y4b:MC:=.r0 X6r
def X6s:=[Qa (Qv 61) (Qd (Qn 17)),Qa (Qv 62) (Qd (Qn 61)),Qb 62 true (Qv 63),Qa (Qv 63) (Qd (Qn 0)),Qb 62 true (Qv 64),Qa (Qv 64) (Qd (Qn 1)),Qb 62 true (Qv 65),Qa (Qv 65) (Qd (Qn 15)),Qb 62 true (Qv 66),Qa (Qv 66) (Qd (Qn 3)),Qb 62 true (Qv 67),Qa (Qv 67) (Qe Qt Qx (Qn 66) (Qo (Qp (Qq (Qr Qu 2))))),Qb 62 true (Qv 68),Qa (Qv 68) (Qh 85 [(Qn 63),(Qn 64),(Qn 65),(Qn 67)]),Qb 62 true (Qv 69),Qa (Qv 69) (QB (Qn 68)),Qa (Qv 70) (Qm (Qn 62) (Qn 69) (Qo (Qp (Qq (Qs false)))))]
def Y4c:MC:=.r0 X6s
def X6t:=[Qa (Qv 8) (Qd (Qo (Qp (Qq (Qs false)))))]
def Y4d:MC:=.r0 X6t
def Y4e:MC:=.seq (.seq Y4a (.cond (Qn 60) (.seq Y4b .ret) .skip)) (.seq Y4c (.cond (Qn 70) (.seq Y4d .ret) .skip))
def Y4f:MC:=.seq Y37 (.seq (.seq Y38 (.cond (Qn 45) Y39 .skip)) Y4e)
def Y4g:MC:=.seq Wnr (.seq Wns (.seq Y36 Y4f))
def X6u:=[Qa (Qv 71) (Qe Qt Qx (Qn 32) (Qo (Qp (Qq (Qr Qu 1))))),Qa (Qv 32) (Qd (Qn 71))]
def Y4h:MC:=.r0 X6u
def Y4i:MC:=.seq Wnp (.blk 0 (.loop (.seq Wnq (.seq (.cond (Qn 33) .skip (Q6 0)) (.seq (.blk 1 Y4g) Y4h)))))
def X6v:=[Qa (Qv 8) (Qd (Qo (Qp (Qq (Qs true)))))]
def Y4j:MC:=.r0 X6v
def Y4k:MC:=.seq Wnn (.seq Wno (.seq Y4i (.seq Y4j .ret)))
def X6w:MC:=.seq Wnm Y4k
attribute [go_sem] Yum Yun Yuo Yup Yuq Yur Yus X6m X6n X6o X6p X6q X6r X6s X6t X6u X6v
theorem Wx3:KK QP 85 f85 [] X6w [(Qy 8)] 72:=by refine⟨func85,?_,?_,?_,?_⟩<;>kernel_rfl
theorem Xv5:Xaa QP 85=true:=by kernel_rfl
theorem Y4l (h:GT QP gp [(Qy 8)] pre R 72 X6w args):Tri QP gp 85 args pre R:=Wx3.t h
-- f86: no body
def X6x:=[Qa (Qv 2) (Q2 (Qn 0)),Qa (Qv 4) (Qd (Qo (Qp (Qq (Qs false)))))]
def Y4m:MC:=.r0 X6x
def X6y:=[Qa (Qv 5) (Qd (Qn 1)),Qa (Qv 6) (Qe Qt QD (Qn 5) (Qo (Qp (Qq (Qr Qu 0))))),Qa (Qv 7) (Qd (Qn 6)),Qb 7 true (Qv 8),Qa (Qv 8) (Qd (Qn 1)),Qb 7 true (Qv 9),Qa (Qv 9) (Qg 1 (Qn 2)),Qb 7 true (Qv 10),Qa (Qv 10) (Qf 1 false (Qn 9)),Qb 7 true (Qv 11),Qa (Qv 11) (Qk Qt (Qn 10)),Qb 7 true (Qv 12),Qa (Qv 12) (Qe Qt Q0 (Qn 8) (Qn 11)),Qa (Qv 13) (Qm (Qn 7) (Qn 12) (Qo (Qp (Qq (Qs false))))),Qa (Qv 4) (Qd (Qn 13))]
def Y4n:MC:=.r0 X6y
def X6z:MC:=.seq Y4m (.seq Y4n .ret)
attribute [go_sem] X6x X6y
theorem Wnt:KK QP 108 f108 [2] X6z [(Qy 4)] 14:=by refine⟨func108,?_,?_,?_,?_⟩<;>kernel_rfl
theorem Y4o:Xaa QP 108=true:=by kernel_rfl
theorem Y4p (h:GI QP gp [(Qy 4)] res 14 X6z args):Does QP gp 108 args res:=Wnt.i Y4o h
def X60:=[Qa (Qv 1) (Q2 (Qn 0)),Qa (Qv 2) (Qd (Qo (Qp (Qq QH))))]
def Y4q:MC:=.r0 X60
def X61:=[Qa (Qv 3) (QO (Go.Fn.func 141) [(Qn 1)]),Qa (Qv 2) (Qd (Qn 3))]
def Y4r:MC:=.r0 X61
def X62:MC:=.seq Y4q (.seq Y4r .ret)
attribute [go_sem] X60 X61
theorem Wnu:KK QP 109 f109 [1] X62 [(Qy 2)] 4:=by refine⟨func109,?_,?_,?_,?_⟩<;>kernel_rfl
theorem Y4s:Xaa QP 109=true:=by kernel_rfl
theorem Y4t (h:GI QP gp [(Qy 2)] res 4 X62 args):Does QP gp 109 args res:=Wnu.i Y4s h
def X63:=[Qa (Qv 1) (Q2 (Qn 0)),Qa (Qv 2) (Qd (Qo (Qp (Qq (Qs false)))))]
def Y4u:MC:=.r0 X63
def X64:=[Qa (Qv 4) (Q4 [QH,QH,QH] [(0,(1,(Qo (Qp (Qq (QS (Go.Fn.func 142) [])))))),(1,(1,(Qo (Qp (Qq (QS (Go.Fn.func 143) [])))))),(2,(1,(Qo (Qp (Qq (QS (Go.Fn.func 144) []))))))]),Qa (Qv 3) (Q3 [QH,QH,QH]),Qa none (Ql 3 (Qn 3) (Qn 4))]
def Y4v:MC:=.r0 X64
def X65:=[Qa (Qv 5) (Qg 0 (Qn 1)),Qa (Qv 6) (Qg 0 (Qn 5)),Qa (Qv 7) (Qf 1 false (Qn 6)),Qa (Qv 8) (Qe Qt QD (Qn 7) (Qo (Qp (Qq (Qr Qu 0))))),Qa (Qv 9) (Qd (Qn 8)),Qb 9 true (Qv 10),Qa (Qv 10) (Qg 0 (Qn 1)),Qb 9 true (Qv 11),Qa (Qv 11) (Qg 0 (Qn 10)),Qb 9 true (Qv 12),Qa (Qv 12) (Qf 1 false (Qn 11)),Qb 9 true (Qv 13),Qa (Qv 13) (Qe Qt Q0 (Qn 12) (Qo (Qp (Qq (Qr Qu 3))))),Qa (Qv 14) (Qm (Qn 9) (Qn 13) (Qo (Qp (Qq (Qs false))))),Qa (Qv 15) (Qd (Qn 14)),Qb 15 true (Qv 16),Qa (Qv 16) (Qg 0 (Qn 1)),Qb 15 true (Qv 17),Qa (Qv 17) (Qg 0 (Qn 16)),Qb 15 true (Qv 18),Qa (Qv 18) (Qf 1 false (Qn 17)),Qb 15 true (Qv 19),Qa (Qv 19) (MOp.iadA 3 1 (Qn 3) (Qn 18)),Qb 15 true (Qv 20),Qa (Qv 20) (Qf 1 false (Qn 19)),Qb 15 true (Qv 21),Qa (Qv 21) (Qf 7 true (Qn 1)),Qb 15 true (Qv 22),Qc (Qv 22) (QC (Qn 20) [(Qn 21)]),Qa (Qv 23) (Qm (Qn 15) (Qn 22) (Qo (Qp (Qq (Qs false))))),Qa (Qv 2) (Qd (Qn 23))]
def Y4w:MC:=.reg true X65
def X66:MC:=.seq Y4u (.seq Y4v (.seq Y4w .ret))
attribute [go_sem] X63 X64 X65
theorem Wnv:KK QP 110 f110 [1] X66 [(Qy 2)] 24:=by refine⟨func110,?_,?_,?_,?_⟩<;>kernel_rfl
theorem Y4x:Xaa QP 110=true:=by kernel_rfl
theorem Y4y (h:GI QP gp [(Qy 2)] res 24 X66 args):Does QP gp 110 args res:=Wnv.i Y4x h
def X67:=[Qa (Qv 1) (Q2 (Qn 0)),Qa (Qv 2) (Qd (Qo (Qp (Qq (Qs false)))))]
def Y4z:MC:=.r0 X67
def X68:=[Qa (Qv 3) (Qg 0 (Qn 1)),Qa (Qv 4) (Qg 4 (Qn 3)),Qa (Qv 5) (Qf 1 false (Qn 4)),Qa (Qv 6) (Qk Qt (Qn 5)),Qa (Qv 7) (Qg 0 (Qn 1)),Qa (Qv 8) (Qg 5 (Qn 7)),Qa (Qv 9) (Qf 1 false (Qn 8)),Qa (Qv 10) (Qk Qt (Qn 9)),Qa (Qv 11) (Qe Qt Qz (Qn 6) (Qn 10)),Qa (Qv 2) (Qd (Qn 11))]
def Y40:MC:=.r0 X68
def X69:MC:=.seq Y4z (.seq Y40 .ret)
attribute [go_sem] X67 X68
theorem Wnw:KK QP 113 f113 [1] X69 [(Qy 2)] 12:=by refine⟨func113,?_,?_,?_,?_⟩<;>kernel_rfl
theorem Y41:Xaa QP 113=true:=by kernel_rfl
theorem Y42 (h:GI QP gp [(Qy 2)] res 12 X69 args):Does QP gp 113 args res:=Wnw.i Y41 h
def X7a:=[Qa (Qv 4) (Qd (Qn 0)),Qa (Qv 5) (Qd (Qn 0)),Qa (Qv 6) (Qk Qt (Qn 5)),Qa (Qv 7) (Qd (Qn 1)),Qa (Qv 8) (Qh 145 [(Qn 4),(Qn 6),(Qn 7)])]
def X7b:MC:=.r0 X7a
attribute [go_sem] X7a
theorem Wnx:KK QP 114 f114 [] X7b [] 9:=by refine⟨func114,?_,?_,?_,?_⟩<;>kernel_rfl
theorem Y43:Xaa QP 114=true:=by kernel_rfl
theorem Ykk (h:GT QP gp [] pre R 9 X7b args):Tri QP gp 114 args pre R:=Wnx.t h
def X7c:=[Qa (Qv 2) (Q2 (Qn 0)),Qa (Qv 3) (Q2 (Qn 1)),Qa (Qv 4) (Qd (Qo (Qp (Qq (Qr Qu 0)))))]
def Y44:MC:=.r0 X7c
def X7d:=[Qa (Qv 5) (Qg 0 (Qn 2)),Qa (Qv 6) (Qf 3 true (Qn 5)),Qa (Qv 7) (Qg 0 (Qn 3)),Qa (Qv 8) (Qf 3 true (Qn 7)),Qa (Qv 9) (Qh 116 [(Qn 6),(Qn 8)]),Qa (Qv 4) (Qd (Qn 9))]
def Y45:MC:=.r0 X7d
def X7e:MC:=.seq Y44 (.seq Y45 .ret)
attribute [go_sem] X7c X7d
theorem Wny:KK QP 115 f115 [2,3] X7e [(Qy 4)] 10:=by refine⟨func115,?_,?_,?_,?_⟩<;>kernel_rfl
theorem Y46:Xaa QP 115=true:=by kernel_rfl
theorem Y47 (h:GI QP gp [(Qy 4)] res 10 X7e args):Does QP gp 115 args res:=Wny.i Y46 h
def X7f:=[Qa (Qv 2) (Q2 (Qn 0)),Qa (Qv 3) (Q2 (Qn 1)),Qa (Qv 4) (Qd (Qo (Qp (Qq (Qr Qu 0)))))]
def Y48:MC:=.r0 X7f
def X7g:=[Qa (Qv 5) (Qf 3 true (Qn 2)),Qa (Qv 6) (Qf 3 true (Qn 3)),Qa (Qv 7) (QK false [Qt,Qt,Q7] (Qn 5) (Qn 6))]
def Y49:MC:=.r0 X7g
def X7h:=[Qa (Qv 4) (Qd (Qo (Qp (Qq (Qr Qu 0)))))]
def Y5a:MC:=.r0 X7h
def X7i:=[Qa (Qv 8) (Qg 0 (Qn 2)),Qa (Qv 9) (Qf 1 false (Qn 8)),Qa (Qv 10) (Qg 0 (Qn 3)),Qa (Qv 11) (Qf 1 false (Qn 10)),Qa (Qv 12) (Qh 147 [(Qn 9),(Qn 11)]),Qa (Qv 13) (Qg 1 (Qn 2)),Qa (Qv 14) (Qf 1 false (Qn 13)),Qa (Qv 15) (Qg 1 (Qn 3)),Qa (Qv 16) (Qf 1 false (Qn 15)),Qa (Qv 17) (Qh 147 [(Qn 14),(Qn 16)]),Qa (Qv 18) (Qg 2 (Qn 2)),Qa (Qv 19) (Qf 1 false (Qn 18)),Qa (Qv 20) (Qg 2 (Qn 3)),Qa (Qv 21) (Qf 1 false (Qn 20)),Qc (Qv 22) (Qh 148 [(Qn 19),(Qn 21)]),Qa (Qv 23) (Q5 1 [(Qr Qu 0)] 3 [(0,(Qn 12)),(1,(Qn 17)),(2,(Qn 22))]),Qc (Qv 24) (Qh 146 [(Qn 23)]),Qa (Qv 4) (Qd (Qn 24))]
def Y5b:MC:=.reg true X7i
def Xv6:MC:=.seq Y48 (.seq (.seq Y49 (.cond (Qn 7) (.seq Y5a .ret) .skip)) (.seq Y5b .ret))
attribute [go_sem] X7f X7g X7h X7i
theorem Wnz:KK QP 116 f116 [2,3] Xv6 [(Qy 4)] 25:=by refine⟨func116,?_,?_,?_,?_⟩<;>kernel_rfl
theorem Y5c:Xaa QP 116=true:=by kernel_rfl
theorem Y5d (h:GI QP gp [(Qy 4)] res 25 Xv6 args):Does QP gp 116 args res:=Wnz.i Y5c h
def X7j:=[Qa (Qv 4) (Qd (Qo (Qp (Qq (Q1 (Qw #[]))))))]
def Y5e:MC:=.r0 X7j
def X7k:=[Qa (Qv 8) (Qd (Qn 0)),Qa (Qv 9) (QF (Qn 8)),Qa (Qv 10) (Qg 0 (Qn 9)),Qa (Qv 11) (Qg 1 (Qn 10)),Qa (Qv 12) (Qf 1 false (Qn 11)),Qa (Qv 13) (Qd (Qn 1)),Qa (Qv 14) (Qj 6 (Qn 12) (Qn 13)),Qa (Qv 15) (Qg 1 (Qn 14)),Qa (Qv 16) (Qf 3 true (Qn 15)),Qa (Qv 17) (Qh 19 [(Qn 16)]),Qa (Qv 7) (Qd (Qn 17)),Qa (Qv 18) (Qi (Qn 7) 0),Qa (Qv 19) (Qi (Qn 7) 1),Qa (Qv 5) (Qd (Qn 18)),Qa (Qv 6) (Qd (Qn 19))]
def Y5f:MC:=.r0 X7k
def X7l:=[Qa (Qv 20) (Qd (Qn 5)),Qa (Qv 4) (Qd (Qn 20))]
def Y5g:MC:=.r0 X7l
def X7m:MC:=.seq Y5e (.seq Y5f (.seq Y5g .ret))
attribute [go_sem] X7j X7k X7l
theorem Wn0:KK QP 120 f120 [] X7m [(Qy 4)] 21:=by refine⟨func120,?_,?_,?_,?_⟩<;>kernel_rfl
theorem Y5h:Xaa QP 120=true:=by kernel_rfl
theorem Ykl (h:GT QP gp [(Qy 4)] pre R 21 X7m args):Tri QP gp 120 args pre R:=Wn0.t h
def X7n:=[Qa (Qv 4) (Qd (Qo (Qp (Qq (Q1 (Qw #[]))))))]
def Y5i:MC:=.r0 X7n
def X7o:=[Qa (Qv 4) (Qd (Qo (Qp (Qq (Q1 (Qw #[91,93]))))))]
def Y5j:MC:=.r0 X7o
def X7p:MC:=.seq Y5i (.seq Y5j .ret)
attribute [go_sem] X7n X7o
theorem Wn1:KK QP 121 f121 [] X7p [(Qy 4)] 5:=by refine⟨func121,?_,?_,?_,?_⟩<;>kernel_rfl
theorem Y5k:Xaa QP 121=true:=by kernel_rfl
theorem Ykm (h:GT QP gp [(Qy 4)] pre R 5 X7p args):Tri QP gp 121 args pre R:=Wn1.t h
def X7q:=[Qa (Qv 4) (Qd (Qo (Qp (Qq (Q1 (Qw #[]))))))]
def Y5l:MC:=.r0 X7q
def X7r:=[Qa (Qv 4) (Qd (Qo (Qp (Qq (Q1 (Qw #[123,125]))))))]
def Y5m:MC:=.r0 X7r
def X7s:MC:=.seq Y5l (.seq Y5m .ret)
attribute [go_sem] X7q X7r
theorem Wn2:KK QP 122 f122 [] X7s [(Qy 4)] 5:=by refine⟨func122,?_,?_,?_,?_⟩<;>kernel_rfl
theorem Y5n:Xaa QP 122=true:=by kernel_rfl
theorem Ykn (h:GT QP gp [(Qy 4)] pre R 5 X7s args):Tri QP gp 122 args pre R:=Wn2.t h
-- f123: trC none
-- f124: trC none
def X7t:=[Qa (Qv 4) (Qd (Qo (Qp A.nil)))]
def Y5o:MC:=.r0 X7t
def X7u:=[Qa (Qv 13) (Qd (Qn 0)),Qa (Qv 14) (QF (Qn 13)),Qa (Qv 15) (Qg 0 (Qn 14)),Qa (Qv 16) (Qf 2 true (Qn 15)),Qa (Qv 17) (Qd (Qn 1)),Qa (Qv 18) (Qh 50 [(Qn 16),(Qn 17)]),Qa (Qv 12) (Qd (Qn 18)),Qa (Qv 19) (Qi (Qn 12) 0),Qa (Qv 20) (Qi (Qn 12) 1),Qa (Qv 5) (Qd (Qn 19)),Qa (Qv 6) (Qd (Qn 20))]
def Y5p:MC:=.r0 X7u
def X7v:=[Qa (Qv 7) (Qd (Qo (Qp A.nil)))]
def Y5q:MC:=.r0 X7v
def X7w:=[Qa (Qv 21) (Qd (Qn 5)),Qa (Qv 22) (Qk Qt (Qn 21)),Qa (Qv 23) (Qd (Qo (Qp (Qq (Qr Qu 0)))))]
def Y5r:MC:=.r0 X7w
def X7x:=[Qa (Qv 24) (Qe Qt Q0 (Qn 23) (Qn 22))]
def Y5s:MC:=.r0 X7x
def X7y:=[Qa (Qv 25) (Qj 3 (Qn 21) (Qn 23)),Qa (Qv 26) (Qf 3 true (Qn 25)),Qa (Qv 9) (Q3 [(Qr Qu 0),(Qr Qu 0),(Q1 (Qw #[]))]),Qa none (Ql 3 (Qn 9) (Qn 26))]
def Y5t:MC:=.r0 X7y
def X7z:=[Qa (Qv 28) (Qf 3 true (Qn 9)),Qa (Qv 29) (Qh 19 [(Qn 28)]),Qa (Qv 27) (Qd (Qn 29)),Qa (Qv 30) (Qi (Qn 27) 0),Qa (Qv 31) (Qi (Qn 27) 1),Qa (Qv 10) (Qd (Qn 30)),Qa (Qv 11) (Qd (Qn 31))]
def Y5u:MC:=.r0 X7z
def Xv7:=[Qa (Qv 32) (Qd (Qn 7)),Qa (Qv 33) (Qd (Qn 10)),Qa (Qv 34) (Qe Q7 Qx (Qn 33) (Qo (Qp (Qq (Q1 (Qw #[58])))))),Qa (Qv 35) (Q5 1 [(Q1 (Qw #[]))] 1 [(0,(Qn 34))]),Qa (Qv 36) (QG 9 1 16 (Qn 32) (Qn 35)),Qa (Qv 7) (Qd (Qn 36))]
def Yko:MC:=.r0 Xv7
def Xv8:=[Qa (Qv 37) (Qe Qt Qx (Qn 23) (Qo (Qp (Qq (Qr Qu 1))))),Qa (Qv 23) (Qd (Qn 37))]
def Ykp:MC:=.r0 Xv8
def Ykq:MC:=.seq (.blk 1 (.seq Y5t (.seq Y5u Yko))) Ykp
def Xv9:=[Qa (Qv 38) (Qd (Qn 0)),Qa (Qv 39) (QF (Qn 38)),Qa (Qv 40) (Qg 0 (Qn 39)),Qa (Qv 41) (Qg 1 (Qn 40)),Qa (Qv 42) (Qf 1 false (Qn 41)),Qa (Qv 43) (Qd (Qn 1)),Qa (Qv 44) (Qj 6 (Qn 42) (Qn 43)),Qa (Qv 45) (Qg 0 (Qn 44)),Qa (Qv 46) (Qf 1 false (Qn 45)),Qa (Qv 47) (Qe Qt Qz (Qn 46) (Qo (Qp (Qq (Qr Qu 1)))))]
def Ykr:MC:=.r0 Xv9
def Xwa:=[Qa (Qv 48) (Q5 1 [(Q1 (Qw #[]))] 1 [(0,(Qo (Qp (Qq (Q1 (Qw #[45]))))))]),Qa (Qv 49) (Qd (Qn 0)),Qa (Qv 50) (QF (Qn 49)),Qa (Qv 51) (Qg 0 (Qn 50)),Qa (Qv 52) (Qg 1 (Qn 51)),Qa (Qv 53) (Qf 1 false (Qn 52)),Qa (Qv 54) (Qd (Qn 1)),Qa (Qv 55) (Qj 6 (Qn 53) (Qn 54)),Qa (Qv 56) (Qg 5 (Qn 55)),Qa (Qv 57) (Qf 1 false (Qn 56)),Qa (Qv 58) (Qk Qt (Qn 57)),Qa (Qv 59) (Qh 152 [(Qn 48),(Qn 58)]),Qa (Qv 7) (Qd (Qn 59))]
def Yks:MC:=.r0 Xwa
def Xwb:=[Qa (Qv 60) (Qd (Qn 7)),Qa (Qv 4) (Qd (Qn 60))]
def Ykt:MC:=.r0 Xwb
def Yku:MC:=.seq (.seq Y5r (.blk 0 (.loop (.seq Y5s (.seq (.cond (Qn 24) .skip (Q6 0)) Ykq))))) (.seq (.seq Ykr (.cond (Qn 47) Yks .skip)) (.seq Ykt .ret))
def Xwc:MC:=.seq Y5o (.seq Y5p (.seq Y5q Yku))
attribute [go_sem] X7t X7u X7v X7w X7x X7y X7z Xv7 Xv8 Xv9 Xwa Xwb
theorem Wn3:KK QP 125 f125 [] Xwc [(Qy 4)] 61:=by refine⟨func125,?_,?_,?_,?_⟩<;>kernel_rfl
theorem Y5v:Xaa QP 125=true:=by kernel_rfl
theorem Xwd (h:GT QP gp [(Qy 4)] pre R 61 Xwc args):Tri QP gp 125 args pre R:=Wn3.t h
def X70:=[Qa (Qv 5) (Qg 1 (Qn 1)),Qa (Qv 6) (Qf 1 false (Qn 5)),Qa (Qv 7) (Qk Qt (Qn 6)),Qa (Qv 8) (Qd (Qo (Qp (Qq (Qr Qu 0)))))]
def Y5w:MC:=.r0 X70
def X71:=[Qa (Qv 9) (Qe Qt Q0 (Qn 8) (Qn 7))]
def Y5x:MC:=.r0 X71
def X72:=[Qa (Qv 10) (Qd (Qn 8)),Qa (Qv 11) (Qj 6 (Qn 6) (Qn 8)),Qa (Qv 12) (Qf 6 true (Qn 11)),Qa (Qv 4) (Q3 [(Qr Qu 0),(Qr Qu 0),(Qr Qu 0),(Q1 (Qw #[])),(Q9 []),(Q9 [])]),Qa (Qv 3) (Qd (Qn 10)),Qa none (Ql 6 (Qn 4) (Qn 12))]
def Y5y:MC:=.r0 X72
def X73:=[Qa (Qv 13) (Qd (Qn 0)),Qa (Qv 14) (Qd (Qn 3)),Qa (Qv 15) (Qf 6 true (Qn 4)),Qa (Qv 16) (Qg 1 (Qn 1)),Qa (Qv 17) (Qf 1 false (Qn 16)),Qa (Qv 18) (Qk Qt (Qn 17)),Qa (Qv 19) (Q4 [(Qr Qu 0),(Qr Qu 0),(Qr Qu 0),(Q1 (Qw #[])),(Q9 []),(Q9 []),(Qr Qu 0)] [(0,(6,(Qn 15))),(6,(1,(Qn 18)))]),Qa (Qv 20) (QC (Qn 13) [(Qn 14),(Qn 19)]),Qa (Qv 21) (QB (Qn 20))]
def Y5z:MC:=.r0 X73
def Xwe:=[Qa (Qv 22) (Qe Qt Qx (Qn 8) (Qo (Qp (Qq (Qr Qu 1))))),Qa (Qv 8) (Qd (Qn 22))]
def Ykv:MC:=.r0 Xwe
def Ykw:MC:=.seq Y5x (.seq (.cond (Qn 9) .skip (Q6 0)) (.seq (.blk 1 (.seq Y5y (.seq Y5z (.cond (Qn 21) (Q6 0) .skip)))) Ykv))
def Xwf:MC:=.scope (.seq .skip (.seq Y5w (.blk 0 (.loop Ykw))))
attribute [go_sem] X70 X71 X72 X73 Xwe
theorem Wn4:KK QP 141 f141 [] Xwf [] 23:=by refine⟨func141,?_,?_,?_,?_⟩<;>kernel_rfl
theorem Y50:Xaa QP 141=true:=by kernel_rfl
theorem Ykx (h:GT QP gp [] pre R 23 Xwf args):Tri QP gp 141 args pre R:=Wn4.t h
def X74:=[Qa (Qv 1) (Q2 (Qn 0)),Qa (Qv 2) (Qd (Qo (Qp (Qq (Qs false)))))]
def Y51:MC:=.r0 X74
def X75:=[Qa (Qv 3) (Qg 0 (Qn 1)),Qa (Qv 4) (Qg 1 (Qn 3)),Qa (Qv 5) (Qf 3 true (Qn 4)),Qa (Qv 6) (Qh 35 [(Qn 5)]),Qa (Qv 7) (Qg 0 (Qn 1)),Qa (Qv 8) (Qg 4 (Qn 7)),Qa (Qv 9) (Qf 1 false (Qn 8)),Qa (Qv 10) (Qk Qt (Qn 9)),Qa (Qv 11) (Qe Qt Qz (Qn 10) (Qo (Qp (Qq (Qr Qu 0))))),Qa (Qv 12) (Qg 0 (Qn 1)),Qa (Qv 13) (Qg 5 (Qn 12)),Qa (Qv 14) (Qf 1 false (Qn 13)),Qa (Qv 15) (Qk Qt (Qn 14)),Qa (Qv 16) (Qe Qt Qz (Qn 15) (Qo (Qp (Qq (Qr Qu 0))))),Qa (Qv 17) (Q5 1 [(Qs false)] 3 [(0,(Qn 6)),(1,(Qn 11)),(2,(Qn 16))]),Qc (Qv 18) (Qh 166 [(Qn 17)]),Qa (Qv 2) (Qd (Qn 18))]
def Y52:MC:=.reg true X75
def X76:MC:=.seq Y51 (.seq Y52 .ret)
attribute [go_sem] X74 X75
theorem Wn5:KK QP 142 f142 [1] X76 [(Qy 2)] 19:=by refine⟨func142,?_,?_,?_,?_⟩<;>kernel_rfl
theorem Y53:Xaa QP 142=true:=by kernel_rfl
theorem Y54 (h:GI QP gp [(Qy 2)] res 19 X76 args):Does QP gp 142 args res:=Wn5.i Y53 h
def X77:=[Qa (Qv 1) (Q2 (Qn 0)),Qa (Qv 2) (Qd (Qo (Qp (Qq (Qs false)))))]
def Y55:MC:=.r0 X77
def X78:=[Qa (Qv 3) (Qg 0 (Qn 1)),Qa (Qv 4) (Qg 1 (Qn 3)),Qa (Qv 5) (Qf 3 true (Qn 4)),Qa (Qv 6) (Q4 [(Qr Qu 0),(Qr Qu 0),(Q1 (Qw #[]))] []),Qa (Qv 7) (QK false [Qt,Qt,Q7] (Qn 5) (Qn 6)),Qa (Qv 8) (Qg 0 (Qn 1)),Qa (Qv 9) (Qg 4 (Qn 8)),Qa (Qv 10) (Qf 1 false (Qn 9)),Qa (Qv 11) (Qk Qt (Qn 10)),Qa (Qv 12) (Qe Qt Qz (Qn 11) (Qo (Qp (Qq (Qr Qu 0))))),Qa (Qv 13) (Qf 7 true (Qn 1)),Qa (Qv 14) (Qh 167 [(Qn 13)]),Qa (Qv 15) (Q5 1 [(Qs false)] 3 [(0,(Qn 7)),(1,(Qn 12)),(2,(Qn 14))]),Qc (Qv 16) (Qh 166 [(Qn 15)]),Qa (Qv 2) (Qd (Qn 16))]
def Y56:MC:=.reg true X78
def X79:MC:=.seq Y55 (.seq Y56 .ret)
attribute [go_sem] X77 X78
theorem Wn6:KK QP 143 f143 [1] X79 [(Qy 2)] 17:=by refine⟨func143,?_,?_,?_,?_⟩<;>kernel_rfl
theorem Y57:Xaa QP 143=true:=by kernel_rfl
theorem Y58 (h:GI QP gp [(Qy 2)] res 17 X79 args):Does QP gp 143 args res:=Wn6.i Y57 h
def X8a:=[Qa (Qv 1) (Q2 (Qn 0)),Qa (Qv 2) (Qd (Qo (Qp (Qq (Qs false)))))]
def Y59:MC:=.r0 X8a
def X8b:=[Qa (Qv 3) (Qg 0 (Qn 1)),Qa (Qv 4) (Qg 1 (Qn 3)),Qa (Qv 5) (Qf 3 true (Qn 4)),Qa (Qv 6) (Q4 [(Qr Qu 0),(Qr Qu 0),(Q1 (Qw #[]))] []),Qa (Qv 7) (QK false [Qt,Qt,Q7] (Qn 5) (Qn 6)),Qa (Qv 8) (Qf 7 true (Qn 1)),Qa (Qv 9) (Qh 113 [(Qn 8)]),Qa (Qv 10) (Qf 7 true (Qn 1)),Qa (Qv 11) (Qh 168 [(Qn 10)]),Qa (Qv 12) (Qf 7 true (Qn 1)),Qa (Qv 13) (Qh 167 [(Qn 12)]),Qa (Qv 14) (Q5 1 [(Qs false)] 4 [(0,(Qn 7)),(1,(Qn 9)),(2,(Qn 11)),(3,(Qn 13))]),Qc (Qv 15) (Qh 166 [(Qn 14)]),Qa (Qv 2) (Qd (Qn 15))]
def Y6a:MC:=.reg true X8b
def X8c:MC:=.seq Y59 (.seq Y6a .ret)
attribute [go_sem] X8a X8b
theorem Wn7:KK QP 144 f144 [1] X8c [(Qy 2)] 16:=by refine⟨func144,?_,?_,?_,?_⟩<;>kernel_rfl
theorem Y6b:Xaa QP 144=true:=by kernel_rfl
theorem Y6c (h:GI QP gp [(Qy 2)] res 16 X8c args):Does QP gp 144 args res:=Wn7.i Y6b h
def X8d:=[Qa (Qv 6) (Qd (Qo (Qp (Qq (Qr Qu 20)))))]
def Y6d:MC:=.r0 X8d
def X8e:=[Qa (Qv 10) (Qd (Qn 6)),Qa (Qv 7) (Qd (Qo (Qp (Qq (Qr Qu 0))))),Qa (Qv 8) (Qd (Qn 10))]
def Y6e:MC:=.r0 X8e
def X8f:=[Qa (Qv 11) (Qd (Qn 8)),Qa (Qv 12) (Qd (Qn 1)),Qa (Qv 13) (Qe Qt QM (Qn 11) (Qn 12))]
def Y6f:MC:=.r0 X8f
def X8g:=[Qa (Qv 14) (Qd (Qn 0)),Qa (Qv 15) (Qd (Qn 7)),Qa (Qv 16) (Qd (Qn 8)),Qa (Qv 17) (Qd (Qn 2)),Qa (Qv 18) (Qh 169 [(Qn 14),(Qn 15),(Qn 16),(Qn 17)])]
def Y6g:MC:=.r0 X8g
def X8h:=[Qa (Qv 19) (Qd (Qn 8)),Qa (Qv 7) (Qd (Qn 19))]
def Y6h:MC:=.r0 X8h
def X8i:=[Qa (Qv 20) (Qd (Qn 8)),Qa (Qv 21) (Qd (Qn 6)),Qa (Qv 22) (Qe Qt Qx (Qn 20) (Qn 21)),Qa (Qv 8) (Qd (Qn 22))]
def Y6i:MC:=.r0 X8i
def Yky:MC:=.seq (.seq Y6f (.cond (Qn 13) .skip (Q6 0))) (.blk 1 (.seq Y6g (.seq Y6h Y6i)))
def Xwg:=[Qa (Qv 23) (Qd (Qn 0)),Qa (Qv 24) (Qd (Qn 7)),Qa (Qv 25) (Qd (Qn 1)),Qa (Qv 26) (Qd (Qn 2)),Qa (Qv 27) (Qh 169 [(Qn 23),(Qn 24),(Qn 25),(Qn 26)])]
def Ykz:MC:=.r0 Xwg
def Xwh:=[Qa (Qv 28) (Qd (Qn 6)),Qa (Qv 29) (Qd (Qn 1)),Qa (Qv 30) (Qe Qt Q0 (Qn 28) (Qn 29))]
def Yk0:MC:=.r0 Xwh
def Xwi:=[Qa (Qv 31) (Qd (Qn 6)),Qa (Qv 32) (Qe Qt QN (Qo (Qp (Qq (Qr Qu 2)))) (Qn 31)),Qa (Qv 7) (Qd (Qo (Qp (Qq (Qr Qu 0))))),Qa (Qv 8) (Qd (Qn 32))]
def Yk1:MC:=.r0 Xwi
def Xwj:=[Qa (Qv 33) (Qd (Qn 8)),Qa (Qv 34) (Qd (Qn 1)),Qa (Qv 35) (Qe Qt QM (Qn 33) (Qn 34))]
def Yk2:MC:=.r0 Xwj
def Xwk:=[Qa (Qv 36) (Qd (Qn 0)),Qa (Qv 37) (Qd (Qn 7)),Qa (Qv 38) (Qd (Qn 7)),Qa (Qv 39) (Qd (Qn 6)),Qa (Qv 40) (Qe Qt Qx (Qn 38) (Qn 39)),Qa (Qv 41) (Qd (Qn 8)),Qa (Qv 42) (Qd (Qn 2)),Qa (Qv 43) (Qh 170 [(Qn 36),(Qn 37),(Qn 40),(Qn 41),(Qn 42)])]
def Yk3:MC:=.r0 Xwk
def Xwl:=[Qa (Qv 44) (Qd (Qn 8)),Qa (Qv 7) (Qd (Qn 44))]
def Yk4:MC:=.r0 Xwl
def Xwm:=[Qa (Qv 45) (Qd (Qn 8)),Qa (Qv 46) (Qd (Qn 6)),Qa (Qv 47) (Qe Qt QN (Qo (Qp (Qq (Qr Qu 2)))) (Qn 46)),Qa (Qv 48) (Qe Qt Qx (Qn 45) (Qn 47)),Qa (Qv 8) (Qd (Qn 48))]
def Yk5:MC:=.r0 Xwm
def Yk6:MC:=.seq (.seq Yk2 (.cond (Qn 35) .skip (Q6 4))) (.blk 5 (.seq Yk3 (.seq Yk4 Yk5)))
def Xwn:=[Qa (Qv 49) (Qd (Qn 7)),Qa (Qv 50) (Qd (Qn 6)),Qa (Qv 51) (Qe Qt Qx (Qn 49) (Qn 50)),Qa (Qv 9) (Qd (Qn 51))]
def Yk7:MC:=.r0 Xwn
def Xwo:=[Qa (Qv 52) (Qd (Qn 9)),Qa (Qv 53) (Qd (Qn 1)),Qa (Qv 54) (Qe Qt Q0 (Qn 52) (Qn 53))]
def Yk8:MC:=.r0 Xwo
def Xwp:=[Qa (Qv 55) (Qd (Qn 0)),Qa (Qv 56) (Qd (Qn 7)),Qa (Qv 57) (Qd (Qn 9)),Qa (Qv 58) (Qd (Qn 1)),Qa (Qv 59) (Qd (Qn 2)),Qa (Qv 60) (Qh 170 [(Qn 55),(Qn 56),(Qn 57),(Qn 58),(Qn 59)])]
def Yk9:MC:=.r0 Xwp
def Xwq:=[Qa (Qv 61) (Qd (Qn 6)),Qa (Qv 62) (Qe Qt QN (Qn 61) (Qo (Qp (Qq (Qr Qu 2))))),Qa (Qv 6) (Qd (Qn 62))]
def Yla:MC:=.r0 Xwq
def Ylb:MC:=.seq (.seq Yk7 (.seq Yk8 (.cond (Qn 54) Yk9 .skip))) Yla
def Ylc:MC:=.seq (.seq Yk0 (.cond (Qn 30) .skip (Q6 2))) (.blk 3 (.seq Yk1 (.seq (.blk 4 (.loop Yk6)) Ylb)))
def Yld:MC:=.seq Y6e (.seq (.blk 0 (.loop Yky)) (.seq Ykz (.blk 2 (.loop Ylc))))
def Xwr:MC:=.seq Y6d Yld
attribute [go_sem] X8d X8e X8f X8g X8h X8i Xwg Xwh Xwi Xwj Xwk Xwl Xwm Xwn Xwo Xwp Xwq
theorem Wn8:KK QP 145 f145 [] Xwr [] 63:=by refine⟨func145,?_,?_,?_,?_⟩<;>kernel_rfl
theorem Y6j:Xaa QP 145=true:=by kernel_rfl
theorem Yle (h:GT QP gp [] pre R 63 Xwr args):Tri QP gp 145 args pre R:=Wn8.t h
def X8j:=[Qa (Qv 2) (Qd (Qo (Qp (Qq (Qr Qu 0)))))]
def Y6k:MC:=.r0 X8j
def X8k:=[Qa (Qv 3) (Qd (Qo (Qp (Qq (Qr Qu 0)))))]
def Y6l:MC:=.r0 X8k
def X8l:=[Qa (Qv 6) (Qd (Qn 0)),Qa (Qv 7) (Qk Qt (Qn 6)),Qa (Qv 8) (Qd (Qo (Qp (Qq (Qr Qu 0)))))]
def Y6m:MC:=.r0 X8l
def X8m:=[Qa (Qv 9) (Qe Qt Q0 (Qn 8) (Qn 7))]
def Y6n:MC:=.r0 X8m
def X8n:=[Qa (Qv 10) (Qj 1 (Qn 6) (Qn 8)),Qa (Qv 11) (Qf 1 false (Qn 10)),Qa (Qv 5) (Qd (Qn 11))]
def Y6o:MC:=.r0 X8n
def X8o:=[Qa (Qv 12) (Qd (Qn 5)),Qa (Qv 13) (Qd (Qn 3)),Qa (Qv 14) (Qe Qt Q8 (Qn 12) (Qn 13))]
def Y6p:MC:=.r0 X8o
def X8p:=[Qa (Qv 15) (Qd (Qn 5)),Qa (Qv 2) (Qd (Qn 15))]
def Y6q:MC:=.r0 X8p
def Xws:=[Qa (Qv 16) (Qe Qt Qx (Qn 8) (Qo (Qp (Qq (Qr Qu 1))))),Qa (Qv 8) (Qd (Qn 16))]
def Ylf:MC:=.r0 Xws
def Ylg:MC:=.seq (.blk 1 (.seq Y6o (.seq Y6p (.cond (Qn 14) (.seq Y6q .ret) .skip)))) Ylf
def Xwt:=[Qa (Qv 17) (Qd (Qn 3)),Qa (Qv 2) (Qd (Qn 17))]
def Ylh:MC:=.r0 Xwt
def Yli:MC:=.seq (.seq Y6m (.blk 0 (.loop (.seq Y6n (.seq (.cond (Qn 9) .skip (Q6 0)) Ylg))))) (.seq Ylh .ret)
def Xwu:MC:=.seq Y6k (.seq Y6l Yli)
attribute [go_sem] X8j X8k X8l X8m X8n X8o X8p Xws Xwt
theorem Wn9:KK QP 146 f146 [] Xwu [(Qy 2)] 18:=by refine⟨func146,?_,?_,?_,?_⟩<;>kernel_rfl
theorem Y6r:Xaa QP 146=true:=by kernel_rfl
theorem Y6s (h:GI QP gp [(Qy 2)] res 18 Xwu args):Does QP gp 146 args res:=Wn9.i Y6r h
def X8q:=[Qa (Qv 4) (Qd (Qo (Qp (Qq (Qr Qu 0)))))]
def Y6t:MC:=.r0 X8q
def X8r:=[Qa (Qv 7) (Qd (Qn 0)),Qa (Qv 8) (Qh 171 [(Qn 7)]),Qa (Qv 5) (Qd (Qn 8))]
def Y6u:MC:=.r0 X8r
def X8s:=[Qa (Qv 9) (Qd (Qn 1)),Qa (Qv 10) (Qh 171 [(Qn 9)]),Qa (Qv 6) (Qd (Qn 10))]
def Y6v:MC:=.r0 X8s
def X8t:=[Qa (Qv 11) (Qd (Qn 5))]
def Y6w:MC:=.r0 X8t
def X8u:=[Qa (Qv 12) (Qd (Qn 6))]
def Y6x:MC:=.r0 X8u
def X8v:=[Qa (Qv 4) (Qd (Qo (Qp (Qq (Qr Qu 0)))))]
def Y6y:MC:=.r0 X8v
def Xwv:=[Qa (Qv 4) (Qd (Qo (Qp (Qq (Qr Qu (-1))))))]
def Ylj:MC:=.r0 Xwv
def Ylk:MC:=.seq Y6w (.cond (Qn 11) (.seq (.seq Y6x (.cond (Qn 12) (.seq Y6y .ret) .skip)) (.seq Ylj .ret)) .skip)
def Xww:=[Qa (Qv 13) (Qd (Qn 6))]
def Yll:MC:=.r0 Xww
def Xwx:=[Qa (Qv 4) (Qd (Qo (Qp (Qq (Qr Qu 1)))))]
def Ylm:MC:=.r0 Xwx
def Xwy:=[Qa (Qv 14) (Qd (Qn 0)),Qa (Qv 15) (Qd (Qn 1)),Qa (Qv 16) (Qe Qt Q0 (Qn 14) (Qn 15))]
def Yln:MC:=.r0 Xwy
def Xwz:=[Qa (Qv 4) (Qd (Qo (Qp (Qq (Qr Qu (-1))))))]
def Ylo:MC:=.r0 Xwz
def Xw0:=[Qa (Qv 17) (Qd (Qn 0)),Qa (Qv 18) (Qd (Qn 1)),Qa (Qv 19) (Qe Qt QA (Qn 17) (Qn 18))]
def Ylp:MC:=.r0 Xw0
def Xw1:=[Qa (Qv 4) (Qd (Qo (Qp (Qq (Qr Qu 1)))))]
def Ylq:MC:=.r0 Xw1
def Xw2:=[Qa (Qv 4) (Qd (Qo (Qp (Qq (Qr Qu 0)))))]
def Ylr:MC:=.r0 Xw2
def Yls:MC:=.seq (.seq Yln (.cond (Qn 16) (.seq Ylo .ret) .skip)) (.seq (.seq Ylp (.cond (Qn 19) (.seq Ylq .ret) .skip)) (.seq Ylr .ret))
def Ylt:MC:=.seq Ylk (.seq (.seq Yll (.cond (Qn 13) (.seq Ylm .ret) .skip)) Yls)
def Xw3:MC:=.seq Y6t (.seq Y6u (.seq Y6v Ylt))
attribute [go_sem] X8q X8r X8s X8t X8u X8v Xwv Xww Xwx Xwy Xwz Xw0 Xw1 Xw2
theorem Woa:KK QP 147 f147 [] Xw3 [(Qy 4)] 20:=by refine⟨func147,?_,?_,?_,?_⟩<;>kernel_rfl
theorem Y6z:Xaa QP 147=true:=by kernel_rfl
theorem Y60 (h:GI QP gp [(Qy 4)] res 20 Xw3 args):Does QP gp 147 args res:=Woa.i Y6z h
def X8w:=[Qa (Qv 4) (Qd (Qo (Qp (Qq (Qr Qu 0)))))]
def Y61:MC:=.r0 X8w
def X8x:=[Qa (Qv 7) (Qd (Qn 0)),Qa (Qv 8) (Qh 172 [(Qn 7)]),Qa (Qv 5) (Qd (Qn 8))]
def Y62:MC:=.r0 X8x
def X8y:=[Qa (Qv 9) (Qd (Qn 1)),Qa (Qv 10) (Qh 172 [(Qn 9)]),Qa (Qv 6) (Qd (Qn 10))]
def Y63:MC:=.r0 X8y
def X8z:=[Qa (Qv 11) (Qd (Qn 5))]
def Y64:MC:=.r0 X8z
def X80:=[Qa (Qv 12) (Qd (Qn 6))]
def Y65:MC:=.r0 X80
def X81:=[Qa (Qv 4) (Qd (Qo (Qp (Qq (Qr Qu 0)))))]
def Y66:MC:=.r0 X81
def Xw4:=[Qa (Qv 4) (Qd (Qo (Qp (Qq (Qr Qu (-1))))))]
def Ylu:MC:=.r0 Xw4
def Ylv:MC:=.seq Y64 (.cond (Qn 11) (.seq (.seq Y65 (.cond (Qn 12) (.seq Y66 .ret) .skip)) (.seq Ylu .ret)) .skip)
def Xw5:=[Qa (Qv 13) (Qd (Qn 6))]
def Ylw:MC:=.r0 Xw5
def Xw6:=[Qa (Qv 4) (Qd (Qo (Qp (Qq (Qr Qu 1)))))]
def Ylx:MC:=.r0 Xw6
def Xw7:=[Qa (Qv 14) (Qd (Qn 0)),Qa (Qv 15) (Qd (Qn 1)),Qa (Qv 16) (Qe Q7 Q0 (Qn 14) (Qn 15))]
def Yly:MC:=.r0 Xw7
def Xw8:=[Qa (Qv 4) (Qd (Qo (Qp (Qq (Qr Qu (-1))))))]
def Ylz:MC:=.r0 Xw8
def Xw9:=[Qa (Qv 17) (Qd (Qn 0)),Qa (Qv 18) (Qd (Qn 1)),Qa (Qv 19) (Qe Q7 QA (Qn 17) (Qn 18))]
def Yl0:MC:=.r0 Xw9
def Xxa:=[Qa (Qv 4) (Qd (Qo (Qp (Qq (Qr Qu 1)))))]
def Yl1:MC:=.r0 Xxa
def Xxb:=[Qa (Qv 4) (Qd (Qo (Qp (Qq (Qr Qu 0)))))]
def Yl2:MC:=.r0 Xxb
def Yl3:MC:=.seq (.seq Yly (.cond (Qn 16) (.seq Ylz .ret) .skip)) (.seq (.seq Yl0 (.cond (Qn 19) (.seq Yl1 .ret) .skip)) (.seq Yl2 .ret))
def Yl4:MC:=.seq Ylv (.seq (.seq Ylw (.cond (Qn 13) (.seq Ylx .ret) .skip)) Yl3)
def Xxc:MC:=.seq Y61 (.seq Y62 (.seq Y63 Yl4))
attribute [go_sem] X8w X8x X8y X8z X80 X81 Xw4 Xw5 Xw6 Xw7 Xw8 Xw9 Xxa Xxb
theorem Wob:KK QP 148 f148 [] Xxc [(Qy 4)] 20:=by refine⟨func148,?_,?_,?_,?_⟩<;>kernel_rfl
theorem Y67:Xaa QP 148=true:=by kernel_rfl
theorem Y68 (h:GI QP gp [(Qy 4)] res 20 Xxc args):Does QP gp 148 args res:=Wob.i Y67 h
def X82:=[Qa (Qv 2) (Qd (Qo (Qp (Qq (Qs false)))))]
def Y69:MC:=.r0 X82
def X83:=[Qa (Qv 3) (Qd (Qn 0)),Qa (Qv 4) (Qh 187 [(Qn 3),(Qo (Qp (Qq (Qs false))))]),Qa (Qv 5) (QB (Qn 4)),Qa (Qv 2) (Qd (Qn 5))]
def Y7a:MC:=.r0 X83
def X84:MC:=.seq Y69 (.seq Y7a .ret)
attribute [go_sem] X82 X83
theorem Woc:KK QP 166 f166 [] X84 [(Qy 2)] 6:=by refine⟨func166,?_,?_,?_,?_⟩<;>kernel_rfl
theorem Y7b:Xaa QP 166=true:=by kernel_rfl
theorem Y7c (h:GI QP gp [(Qy 2)] res 6 X84 args):Does QP gp 166 args res:=Woc.i Y7b h
def X85:=[Qa (Qv 1) (Q2 (Qn 0)),Qa (Qv 2) (Qd (Qo (Qp (Qq (Qs false)))))]
def Y7d:MC:=.r0 X85
def X86:=[Qa (Qv 4) (QO (Go.Fn.func 188) [(Qn 1)]),Qa (Qv 3) (Qd (Qn 4))]
def Y7e:MC:=.r0 X86
def X87:=[Qa (Qv 5) (Qg 0 (Qn 1)),Qa (Qv 6) (Qg 5 (Qn 5)),Qa (Qv 7) (Qf 1 false (Qn 6)),Qa (Qv 8) (Qd (Qn 3)),Qa (Qv 9) (Qh 189 [(Qn 7),(Qn 8)]),Qa (Qv 10) (QB (Qn 9)),Qa (Qv 2) (Qd (Qn 10))]
def Y7f:MC:=.r0 X87
def X88:MC:=.seq Y7d (.seq Y7e (.seq Y7f .ret))
attribute [go_sem] X85 X86 X87
theorem Wod:KK QP 167 f167 [1] X88 [(Qy 2)] 11:=by refine⟨func167,?_,?_,?_,?_⟩<;>kernel_rfl
theorem Y7g:Xaa QP 167=true:=by kernel_rfl
theorem Y7h (h:GI QP gp [(Qy 2)] res 11 X88 args):Does QP gp 167 args res:=Wod.i Y7g h
def X89:=[Qa (Qv 1) (Q2 (Qn 0)),Qa (Qv 2) (Qd (Qo (Qp (Qq (Qs false)))))]
def Y7i:MC:=.r0 X89
def X9a:=[Qa (Qv 3) (Qd (Qo (Qp (Qq (QS (Go.Fn.func 190) [])))))]
def Y7j:MC:=.r0 X9a
def X9b:=[Qa (Qv 4) (Qg 0 (Qn 1)),Qa (Qv 5) (Qg 4 (Qn 4)),Qa (Qv 6) (Qf 1 false (Qn 5)),Qa (Qv 7) (Qd (Qn 3)),Qa (Qv 8) (Qh 191 [(Qn 6),(Qn 7)]),Qa (Qv 9) (QB (Qn 8)),Qa (Qv 10) (Qd (Qn 9)),Qb 10 true (Qv 11),Qa (Qv 11) (Qg 0 (Qn 1)),Qb 10 true (Qv 12),Qa (Qv 12) (Qg 4 (Qn 11)),Qb 10 true (Qv 13),Qa (Qv 13) (Qf 1 false (Qn 12)),Qb 10 true (Qv 14),Qa (Qv 14) (Qh 192 [(Qn 13)]),Qb 10 true (Qv 15),Qa (Qv 15) (QB (Qn 14)),Qa (Qv 16) (Qm (Qn 10) (Qn 15) (Qo (Qp (Qq (Qs false))))),Qa (Qv 2) (Qd (Qn 16))]
def Y7k:MC:=.r0 X9b
def X9c:MC:=.seq Y7i (.seq Y7j (.seq Y7k .ret))
attribute [go_sem] X89 X9a X9b
theorem Woe:KK QP 168 f168 [1] X9c [(Qy 2)] 17:=by refine⟨func168,?_,?_,?_,?_⟩<;>kernel_rfl
theorem Y7l:Xaa QP 168=true:=by kernel_rfl
theorem Y7m (h:GI QP gp [(Qy 2)] res 17 X9c args):Does QP gp 168 args res:=Woe.i Y7l h
def X9d:=[Qa (Qv 10) (Qd (Qn 1)),Qa (Qv 11) (Qe Qt Qx (Qn 10) (Qo (Qp (Qq (Qr Qu 1))))),Qa (Qv 8) (Qd (Qn 11))]
def Y7n:MC:=.r0 X9d
def X9e:=[Qa (Qv 12) (Qd (Qn 8)),Qa (Qv 13) (Qd (Qn 2)),Qa (Qv 14) (Qe Qt Q0 (Qn 12) (Qn 13))]
def Y7o:MC:=.r0 X9e
def X9f:=[Qa (Qv 17) (Qd (Qn 8)),Qa (Qv 9) (Qd (Qn 17))]
def Y7p:MC:=.r0 X9f
def X9g:=[Qa (Qv 18) (Qd (Qn 9)),Qa (Qv 19) (Qd (Qn 1)),Qa (Qv 20) (Qe Qt QA (Qn 18) (Qn 19)),Qa (Qv 21) (Qd (Qn 20)),Qb 21 true (Qv 22),Qa (Qv 22) (Qd (Qn 3)),Qb 21 true (Qv 23),Qa (Qv 23) (Qd (Qn 0)),Qb 21 true (Qv 24),Qa (Qv 24) (Qd (Qn 9)),Qb 21 true (Qv 25),Qa (Qv 25) (Qj 4 (Qn 23) (Qn 24)),Qb 21 true (Qv 26),Qa (Qv 26) (Qf 4 true (Qn 25)),Qb 21 true (Qv 27),Qa (Qv 27) (Qd (Qn 0)),Qb 21 true (Qv 28),Qa (Qv 28) (Qd (Qn 9)),Qb 21 true (Qv 29),Qa (Qv 29) (Qe Qt QI (Qn 28) (Qo (Qp (Qq (Qr Qu 1))))),Qb 21 true (Qv 30),Qa (Qv 30) (Qj 4 (Qn 27) (Qn 29)),Qb 21 true (Qv 31),Qa (Qv 31) (Qf 4 true (Qn 30)),Qb 21 true (Qv 32),Qc (Qv 32) (QC (Qn 22) [(Qn 26),(Qn 31)]),Qb 21 true (Qv 33),Qa (Qv 33) (Qe Qt Q0 (Qn 32) (Qo (Qp (Qq (Qr Qu 0))))),Qa (Qv 34) (Qm (Qn 21) (Qn 33) (Qo (Qp (Qq (Qs false)))))]
def Y7q:MC:=.reg true X9g
def Xxd:=[Qa (Qv 37) (Qd (Qn 0)),Qa (Qv 38) (Qd (Qn 9)),Qa (Qv 39) (Qd (Qn 0)),Qa (Qv 40) (Qd (Qn 9)),Qa (Qv 41) (Qe Qt QI (Qn 40) (Qo (Qp (Qq (Qr Qu 1))))),Qa (Qv 42) (Qd (Qn 0)),Qa (Qv 43) (Qd (Qn 9)),Qa (Qv 44) (Qe Qt QI (Qn 43) (Qo (Qp (Qq (Qr Qu 1))))),Qa (Qv 45) (Qj 4 (Qn 42) (Qn 44)),Qa (Qv 46) (Qf 4 true (Qn 45)),Qa (Qv 47) (Qd (Qn 0)),Qa (Qv 48) (Qd (Qn 9)),Qa (Qv 49) (Qj 4 (Qn 47) (Qn 48)),Qa (Qv 50) (Qf 4 true (Qn 49)),Qa (Qv 51) (Qj 4 (Qn 37) (Qn 38)),Qa none (Ql 4 (Qn 51) (Qn 46)),Qa (Qv 52) (Qj 4 (Qn 39) (Qn 41)),Qa none (Ql 4 (Qn 52) (Qn 50))]
def Yl5:MC:=.reg true Xxd
def Xxe:=[Qa (Qv 35) (Qd (Qn 9)),Qa (Qv 36) (Qe Qt QI (Qn 35) (Qo (Qp (Qq (Qr Qu 1))))),Qa (Qv 9) (Qd (Qn 36))]
def Yl6:MC:=.r0 Xxe
def Yl7:MC:=.seq Y7p (.blk 2 (.loop (.seq (.seq Y7q (.cond (Qn 34) .skip (Q6 2))) (.seq (.blk 3 Yl5) Yl6))))
def Xxf:=[Qa (Qv 15) (Qd (Qn 8)),Qa (Qv 16) (Qe Qt Qx (Qn 15) (Qo (Qp (Qq (Qr Qu 1))))),Qa (Qv 8) (Qd (Qn 16))]
def Yl8:MC:=.r0 Xxf
def Xxg:MC:=.seq Y7n (.blk 0 (.loop (.seq (.seq Y7o (.cond (Qn 14) .skip (Q6 0))) (.seq (.blk 1 Yl7) Yl8))))
attribute [go_sem] X9d X9e X9f X9g Xxd Xxe Xxf
theorem Wof:KK QP 169 f169 [] Xxg [] 53:=by refine⟨func169,?_,?_,?_,?_⟩<;>kernel_rfl
theorem Y7r:Xaa QP 169=true:=by kernel_rfl
theorem Yl9 (h:GT QP gp [] pre R 53 Xxg args):Tri QP gp 169 args pre R:=Wof.t h
def X9h:=[Qa (Qv 2) (Qd (Qo (Qp (Qq (Qs false)))))]
def Y7s:MC:=.r0 X9h
def X9i:=[Qa (Qv 3) (Qd (Qn 0)),Qa (Qv 4) (Qd (Qn 0)),Qa (Qv 5) (Qe Qt Q8 (Qn 3) (Qn 4)),Qa (Qv 2) (Qd (Qn 5))]
def Y7t:MC:=.r0 X9i
def X9j:MC:=.seq Y7s (.seq Y7t .ret)
attribute [go_sem] X9h X9i
theorem Wog:KK QP 171 f171 [] X9j [(Qy 2)] 6:=by refine⟨func171,?_,?_,?_,?_⟩<;>kernel_rfl
theorem Y7u:Xaa QP 171=true:=by kernel_rfl
theorem Y7v (h:GI QP gp [(Qy 2)] res 6 X9j args):Does QP gp 171 args res:=Wog.i Y7u h
def X9k:=[Qa (Qv 2) (Qd (Qo (Qp (Qq (Qs false)))))]
def Y7w:MC:=.r0 X9k
def X9l:=[Qa (Qv 3) (Qd (Qn 0)),Qa (Qv 4) (Qd (Qn 0)),Qa (Qv 5) (Qe Q7 Q8 (Qn 3) (Qn 4)),Qa (Qv 2) (Qd (Qn 5))]
def Y7x:MC:=.r0 X9l
def X9m:MC:=.seq Y7w (.seq Y7x .ret)
attribute [go_sem] X9k X9l
theorem Woh:KK QP 172 f172 [] X9m [(Qy 2)] 6:=by refine⟨func172,?_,?_,?_,?_⟩<;>kernel_rfl
theorem Y7y:Xaa QP 172=true:=by kernel_rfl
theorem Y7z (h:GI QP gp [(Qy 2)] res 6 X9m args):Does QP gp 172 args res:=Woh.i Y7y h
def X9n:=[Qa (Qv 4) (Qd (Qo (Qp (Qq (Qs false)))))]
def Y70:MC:=.r0 X9n
def X9o:=[Qa (Qv 5) (Qd (Qn 0)),Qa (Qv 6) (Qd (Qn 1)),Qa (Qv 7) (Qh 203 [(Qn 5),(Qn 6)]),Qa (Qv 8) (Qe Qt QD (Qn 7) (Qo (Qp (Qq (Qr Qu 0))))),Qa (Qv 4) (Qd (Qn 8))]
def Y71:MC:=.r0 X9o
def X9p:MC:=.seq Y70 (.seq Y71 .ret)
attribute [go_sem] X9n X9o
theorem Woi:KK QP 187 f187 [] X9p [(Qy 4)] 9:=by refine⟨func187,?_,?_,?_,?_⟩<;>kernel_rfl
theorem Y72:Xaa QP 187=true:=by kernel_rfl
theorem Y73 (h:GI QP gp [(Qy 4)] res 9 X9p args):Does QP gp 187 args res:=Woi.i Y72 h
def X9q:=[Qa (Qv 3) (Qd (Qo (Qp (Qq (Qs false)))))]
def Y74:MC:=.r0 X9q
def X9r:=[Qa (Qv 4) (Qd (Qn 0)),Qa (Qv 5) (Qe Qt Q0 (Qn 4) (Qo (Qp (Qq (Qr Qu 0))))),Qa (Qv 6) (Qd (Qn 5)),Qb 6 false (Qv 7),Qa (Qv 7) (Qd (Qn 0)),Qb 6 false (Qv 8),Qa (Qv 8) (Qg 6 (Qn 1)),Qb 6 false (Qv 9),Qa (Qv 9) (Qf 1 false (Qn 8)),Qb 6 false (Qv 10),Qa (Qv 10) (Qe Qt QD (Qn 7) (Qn 9)),Qa (Qv 11) (Qm (Qn 6) (Qo (Qp (Qq (Qs true)))) (Qn 10)),Qa (Qv 3) (Qd (Qn 11))]
def Y75:MC:=.r0 X9r
def X9s:MC:=.seq Y74 (.seq Y75 .ret)
attribute [go_sem] X9q X9r
theorem Woj:KK QP 188 f188 [] X9s [(Qy 3)] 12:=by refine⟨func188,?_,?_,?_,?_⟩<;>kernel_rfl
theorem Y76:Xaa QP 188=true:=by kernel_rfl
theorem Y77 (h:GI QP gp [(Qy 3)] res 12 X9s args):Does QP gp 188 args res:=Woj.i Y76 h
def X9t:=[Qa (Qv 4) (Qd (Qo (Qp (Qq (Qs false)))))]
def Y78:MC:=.r0 X9t
def X9u:=[Qa (Qv 5) (Qd (Qn 0)),Qa (Qv 6) (Qd (Qn 1)),Qa (Qv 7) (Qh 204 [(Qn 5),(Qn 6)]),Qa (Qv 8) (Qe Qt QD (Qn 7) (Qo (Qp (Qq (Qr Qu 0))))),Qa (Qv 4) (Qd (Qn 8))]
def Y79:MC:=.r0 X9u
def X9v:MC:=.seq Y78 (.seq Y79 .ret)
attribute [go_sem] X9t X9u
theorem Wok:KK QP 189 f189 [] X9v [(Qy 4)] 9:=by refine⟨func189,?_,?_,?_,?_⟩<;>kernel_rfl
theorem Y8a:Xaa QP 189=true:=by kernel_rfl
theorem Y8b (h:GI QP gp [(Qy 4)] res 9 X9v args):Does QP gp 189 args res:=Wok.i Y8a h
def X9w:=[Qa (Qv 1) (Q2 (Qn 0)),Qa (Qv 2) (Qd (Qo (Qp (Qq (Qs false)))))]
def Y8c:MC:=.r0 X9w
def X9x:=[Qa (Qv 3) (Qf 3 true (Qn 1)),Qa (Qv 4) (Qh 35 [(Qn 3)]),Qa (Qv 5) (QB (Qn 4)),Qa (Qv 2) (Qd (Qn 5))]
def Y8d:MC:=.r0 X9x
def X9y:MC:=.seq Y8c (.seq Y8d .ret)
attribute [go_sem] X9w X9x
theorem Wol:KK QP 190 f190 [1] X9y [(Qy 2)] 6:=by refine⟨func190,?_,?_,?_,?_⟩<;>kernel_rfl
theorem Y8e:Xaa QP 190=true:=by kernel_rfl
theorem Y8f (h:GI QP gp [(Qy 2)] res 6 X9y args):Does QP gp 190 args res:=Wol.i Y8e h
def X9z:=[Qa (Qv 4) (Qd (Qo (Qp (Qq (Qs false)))))]
def Y8g:MC:=.r0 X9z
def X90:=[Qa (Qv 5) (Qd (Qn 0)),Qa (Qv 6) (Qd (Qn 1)),Qa (Qv 7) (Qh 205 [(Qn 5),(Qn 6)]),Qa (Qv 8) (Qe Qt QD (Qn 7) (Qo (Qp (Qq (Qr Qu 0))))),Qa (Qv 4) (Qd (Qn 8))]
def Y8h:MC:=.r0 X90
def X91:MC:=.seq Y8g (.seq Y8h .ret)
attribute [go_sem] X9z X90
theorem Wom:KK QP 191 f191 [] X91 [(Qy 4)] 9:=by refine⟨func191,?_,?_,?_,?_⟩<;>kernel_rfl
theorem Y8i:Xaa QP 191=true:=by kernel_rfl
theorem Y8j (h:GI QP gp [(Qy 4)] res 9 X91 args):Does QP gp 191 args res:=Wom.i Y8i h
def X92:=[Qa (Qv 2) (Qd (Qo (Qp (Qq (Qs false)))))]
def Y8k:MC:=.r0 X92
def X93:=[Qa (Qv 3) (Q3 [(Qr Qu 0)]),Qa none (Ql 1 (Qn 3) (Qo (Qp (Qq (Qr Qu 0)))))]
def Y8l:MC:=.r0 X93
def X94:=[Qa (Qv 4) (Qd (Qn 0)),Qa (Qv 5) (Qh 206 [(Qn 4)])]
def Y8m:MC:=.r0 X94
def X95:=[Qa (Qv 7) (Qf 1 false (Qn 3)),Qa (Qv 8) (Qe Qt Qx (Qn 7) (Qo (Qp (Qq (Qr Qu 1))))),Qa none (Ql 1 (Qn 3) (Qn 8))]
def Y8n:MC:=.r0 X95
def Y8o:MC:=.rf (Qn 5) [6] .skip (.blk 1 Y8n)
def X96:=[Qa (Qv 9) (Qf 1 false (Qn 3)),Qa (Qv 10) (Qd (Qn 0)),Qa (Qv 11) (Qk Qt (Qn 10)),Qa (Qv 12) (Qe Qt Q0 (Qn 9) (Qn 11)),Qa (Qv 2) (Qd (Qn 12))]
def Y8p:MC:=.r0 X96
def Yma:MC:=.seq Y8l (.seq (.seq Y8m (.blk 0 Y8o)) (.seq Y8p .ret))
def Xxh:MC:=.seq Y8k Yma
attribute [go_sem] X92 X93 X94 X95 X96
theorem Won:KK QP 192 f192 [] Xxh [(Qy 2)] 13:=by refine⟨func192,?_,?_,?_,?_⟩<;>kernel_rfl
theorem Y8q:Xaa QP 192=true:=by kernel_rfl
theorem Y8r (h:GI QP gp [(Qy 2)] res 13 Xxh args):Does QP gp 192 args res:=Won.i Y8q h
def X97:=[Qa (Qv 4) (Qd (Qo (Qp (Qq (Qr Qu 0)))))]
def Y8s:MC:=.r0 X97
def X98:=[Qa (Qv 6) (Qd (Qn 0)),Qa (Qv 7) (Qk Qt (Qn 6)),Qa (Qv 8) (Qd (Qo (Qp (Qq (Qr Qu 0)))))]
def Y8t:MC:=.r0 X98
def X99:=[Qa (Qv 9) (Qe Qt Q0 (Qn 8) (Qn 7))]
def Y8u:MC:=.r0 X99
def Yaa:=[Qa (Qv 10) (Qd (Qn 8)),Qa (Qv 5) (Qd (Qn 10))]
def Y8v:MC:=.r0 Yaa
def Yab:=[Qa (Qv 11) (Qd (Qn 1)),Qa (Qv 12) (Qd (Qn 0)),Qa (Qv 13) (Qd (Qn 5)),Qa (Qv 14) (Qj 1 (Qn 12) (Qn 13)),Qa (Qv 15) (Qf 1 false (Qn 14)),Qa (Qv 16) (Qe Leaf.b Qz (Qn 11) (Qn 15))]
def Y8w:MC:=.r0 Yab
def Yac:=[Qa (Qv 17) (Qd (Qn 5)),Qa (Qv 4) (Qd (Qn 17))]
def Y8x:MC:=.r0 Yac
def Xxi:=[Qa (Qv 18) (Qe Qt Qx (Qn 8) (Qo (Qp (Qq (Qr Qu 1))))),Qa (Qv 8) (Qd (Qn 18))]
def Ymb:MC:=.r0 Xxi
def Ymc:MC:=.seq (.blk 1 (.seq Y8v (.seq Y8w (.cond (Qn 16) (.seq Y8x .ret) .skip)))) Ymb
def Xxj:=[Qa (Qv 4) (Qd (Qo (Qp (Qq (Qr Qu (-1))))))]
def Ymd:MC:=.r0 Xxj
def Yme:MC:=.seq (.seq Y8t (.blk 0 (.loop (.seq Y8u (.seq (.cond (Qn 9) .skip (Q6 0)) Ymc))))) (.seq Ymd .ret)
def Xxk:MC:=.seq Y8s Yme
attribute [go_sem] X97 X98 X99 Yaa Yab Yac Xxi Xxj
theorem Woo:KK QP 203 f203 [] Xxk [(Qy 4)] 19:=by refine⟨func203,?_,?_,?_,?_⟩<;>kernel_rfl
theorem Y8y:Xaa QP 203=true:=by kernel_rfl
theorem Y8z (h:GI QP gp [(Qy 4)] res 19 Xxk args):Does QP gp 203 args res:=Woo.i Y8y h
def Yad:=[Qa (Qv 4) (Qd (Qo (Qp (Qq (Qr Qu 0)))))]
def Y80:MC:=.r0 Yad
def Yae:=[Qa (Qv 6) (Qd (Qn 0)),Qa (Qv 7) (Qk Qt (Qn 6)),Qa (Qv 8) (Qd (Qo (Qp (Qq (Qr Qu 0)))))]
def Y81:MC:=.r0 Yae
def Yaf:=[Qa (Qv 9) (Qe Qt Q0 (Qn 8) (Qn 7))]
def Y82:MC:=.r0 Yaf
def Yag:=[Qa (Qv 10) (Qd (Qn 8)),Qa (Qv 5) (Qd (Qn 10))]
def Y83:MC:=.r0 Yag
def Yah:=[Qa (Qv 11) (Qd (Qn 1)),Qa (Qv 12) (Qd (Qn 0)),Qa (Qv 13) (Qd (Qn 5)),Qa (Qv 14) (Qj 1 (Qn 12) (Qn 13)),Qa (Qv 15) (Qf 1 false (Qn 14)),Qa (Qv 16) (QC (Qn 11) [(Qn 15)])]
def Y84:MC:=.r0 Yah
def Yai:=[Qa (Qv 17) (Qd (Qn 5)),Qa (Qv 4) (Qd (Qn 17))]
def Y85:MC:=.r0 Yai
def Xxl:=[Qa (Qv 18) (Qe Qt Qx (Qn 8) (Qo (Qp (Qq (Qr Qu 1))))),Qa (Qv 8) (Qd (Qn 18))]
def Ymf:MC:=.r0 Xxl
def Ymg:MC:=.seq (.blk 1 (.seq Y83 (.seq Y84 (.cond (Qn 16) (.seq Y85 .ret) .skip)))) Ymf
def Xxm:=[Qa (Qv 4) (Qd (Qo (Qp (Qq (Qr Qu (-1))))))]
def Ymh:MC:=.r0 Xxm
def Ymi:MC:=.seq (.seq Y81 (.blk 0 (.loop (.seq Y82 (.seq (.cond (Qn 9) .skip (Q6 0)) Ymg))))) (.seq Ymh .ret)
def Xxn:MC:=.seq Y80 Ymi
attribute [go_sem] Yad Yae Yaf Yag Yah Yai Xxl Xxm
theorem Wop:KK QP 204 f204 [] Xxn [(Qy 4)] 19:=by refine⟨func204,?_,?_,?_,?_⟩<;>kernel_rfl
theorem Y86:Xaa QP 204=true:=by kernel_rfl
theorem Y87 (h:GI QP gp [(Qy 4)] res 19 Xxn args):Does QP gp 204 args res:=Wop.i Y86 h
def Yaj:=[Qa (Qv 4) (Qd (Qo (Qp (Qq (Qr Qu 0)))))]
def Y88:MC:=.r0 Yaj
def Yak:=[Qa (Qv 6) (Qd (Qn 0)),Qa (Qv 7) (Qk Qt (Qn 6)),Qa (Qv 8) (Qd (Qo (Qp (Qq (Qr Qu 0)))))]
def Y89:MC:=.r0 Yak
def Yal:=[Qa (Qv 9) (Qe Qt Q0 (Qn 8) (Qn 7))]
def Y9a:MC:=.r0 Yal
def Yam:=[Qa (Qv 10) (Qd (Qn 8)),Qa (Qv 5) (Qd (Qn 10))]
def Y9b:MC:=.r0 Yam
def Yan:=[Qa (Qv 11) (Qd (Qn 1)),Qa (Qv 12) (Qd (Qn 0)),Qa (Qv 13) (Qd (Qn 5)),Qa (Qv 14) (Qj 3 (Qn 12) (Qn 13)),Qa (Qv 15) (Qf 3 true (Qn 14)),Qa (Qv 16) (QC (Qn 11) [(Qn 15)])]
def Y9c:MC:=.r0 Yan
def Yao:=[Qa (Qv 17) (Qd (Qn 5)),Qa (Qv 4) (Qd (Qn 17))]
def Y9d:MC:=.r0 Yao
def Xxo:=[Qa (Qv 18) (Qe Qt Qx (Qn 8) (Qo (Qp (Qq (Qr Qu 1))))),Qa (Qv 8) (Qd (Qn 18))]
def Ymj:MC:=.r0 Xxo
def Ymk:MC:=.seq (.blk 1 (.seq Y9b (.seq Y9c (.cond (Qn 16) (.seq Y9d .ret) .skip)))) Ymj
def Xxp:=[Qa (Qv 4) (Qd (Qo (Qp (Qq (Qr Qu (-1))))))]
def Yml:MC:=.r0 Xxp
def Ymm:MC:=.seq (.seq Y89 (.blk 0 (.loop (.seq Y9a (.seq (.cond (Qn 9) .skip (Q6 0)) Ymk))))) (.seq Yml .ret)
def Xxq:MC:=.seq Y88 Ymm
attribute [go_sem] Yaj Yak Yal Yam Yan Yao Xxo Xxp
theorem Woq:KK QP 205 f205 [] Xxq [(Qy 4)] 19:=by refine⟨func205,?_,?_,?_,?_⟩<;>kernel_rfl
theorem Y9e:Xaa QP 205=true:=by kernel_rfl
theorem Y9f (h:GI QP gp [(Qy 4)] res 19 Xxq args):Does QP gp 205 args res:=Woq.i Y9e h
def Yap:=[Qa (Qv 1) (Q2 (Qn 0)),Qa (Qv 2) (Qd (Qo (Qp (Qq QH))))]
def Y9g:MC:=.r0 Yap
def Yaq:=[Qa (Qv 3) (QO (Go.Fn.func 208) [(Qn 1)]),Qa (Qv 2) (Qd (Qn 3))]
def Y9h:MC:=.r0 Yaq
def Yar:MC:=.seq Y9g (.seq Y9h .ret)
attribute [go_sem] Yap Yaq
theorem Wor:KK QP 206 f206 [1] Yar [(Qy 2)] 4:=by refine⟨func206,?_,?_,?_,?_⟩<;>kernel_rfl
theorem Y9i:Xaa QP 206=true:=by kernel_rfl
theorem Y9j (h:GI QP gp [(Qy 2)] res 4 Yar args):Does QP gp 206 args res:=Wor.i Y9i h
def Yas:=[Qa (Qv 6) QT,Qa (Qv 3) (Qd (Qn 6))]
def Y9k:MC:=.r0 Yas
def Yat:=[Qa (Qv 7) (Qf 1 false (Qn 1)),Qa (Qv 8) (Qk Qt (Qn 7)),Qa (Qv 9) (Qd (Qo (Qp (Qq (Qr Qu 0)))))]
def Y9l:MC:=.r0 Yat
def Yau:=[Qa (Qv 10) (Qe Qt Q0 (Qn 9) (Qn 8))]
def Y9m:MC:=.r0 Yau
def Yav:=[Qa (Qv 11) (Qj 3 (Qn 7) (Qn 9)),Qa (Qv 12) (Qf 3 true (Qn 11)),Qa (Qv 5) (Q3 [(Qr Qu 0),(Qr Qu 0),(Q1 (Qw #[]))]),Qa none (Ql 3 (Qn 5) (Qn 12))]
def Y9n:MC:=.r0 Yav
def Yaw:=[Qa (Qv 13) (Qd (Qn 3)),Qa (Qv 14) (Qf 3 true (Qn 5)),Qa (Qv 15) (QV false (Qp (Qq (Qs false))) true [Qt,Qt,Q7] (Qn 13) (Qn 14)),Qa (Qv 16) (Qd (Qn 15)),Qb 16 false (Qv 17),Qa (Qv 17) (Qd (Qn 0)),Qb 16 false (Qv 18),Qa (Qv 18) (Qf 3 true (Qn 5)),Qb 16 false (Qv 19),Qa (Qv 19) (QC (Qn 17) [(Qn 18)]),Qb 16 false (Qv 20),Qa (Qv 20) (QB (Qn 19)),Qa (Qv 21) (Qm (Qn 16) (Qo (Qp (Qq (Qs true)))) (Qn 20))]
def Y9o:MC:=.r0 Yaw
def Xxr:=[Qa (Qv 22) (Qd (Qn 3)),Qa (Qv 23) (Qf 3 true (Qn 5)),Qa none (QL true [Qt,Qt,Q7] (Qn 22) (Qn 23) (Qo (Qp (Qq (Qs true)))))]
def Ymn:MC:=.r0 Xxr
def Xxs:=[Qa (Qv 24) (Qe Qt Qx (Qn 9) (Qo (Qp (Qq (Qr Qu 1))))),Qa (Qv 9) (Qd (Qn 24))]
def Ymo:MC:=.r0 Xxs
def Ymp:MC:=.seq (.blk 1 (.seq Y9n (.seq (.seq Y9o (.cond (Qn 21) (Q6 0) .skip)) Ymn))) Ymo
def Ymq:MC:=.seq Y9k (.seq .skip (.seq Y9l (.blk 0 (.loop (.seq Y9m (.seq (.cond (Qn 10) .skip (Q6 0)) Ymp))))))
def Xxt:MC:=.scope Ymq
attribute [go_sem] Yas Yat Yau Yav Yaw Xxr Xxs
theorem Wos:KK QP 208 f208 [] Xxt [] 25:=by refine⟨func208,?_,?_,?_,?_⟩<;>kernel_rfl
theorem Y9p:Xaa QP 208=true:=by kernel_rfl
theorem Ymr (h:GT QP gp [] pre R 25 Xxt args):Tri QP gp 208 args pre R:=Wos.t h
def Yax:=[Qa (Qv 2) (Qd (Qo (Qp (Qq (Q1 (Qw #[]))))))]
def Y9q:MC:=.r0 Yax
def Yay:=[Qa (Qv 3) (Qd (Qn 0)),Qa (Qv 4) (Qe Q7 Qx (Qo (Qp (Qq (Q1 (Qw #[32]))))) (Qn 3)),Qa (Qv 2) (Qd (Qn 4))]
def Y9r:MC:=.r0 Yay
def Yaz:MC:=.seq Y9q (.seq Y9r .ret)
attribute [go_sem] Yax Yay
theorem Wot:KK QP 228 f228 [] Yaz [(Qy 2)] 5:=by refine⟨func228,?_,?_,?_,?_⟩<;>kernel_rfl
theorem Y9s:Xaa QP 228=true:=by kernel_rfl
theorem Y9t (h:GI QP gp [(Qy 2)] res 5 Yaz args):Does QP gp 228 args res:=Wot.i Y9s h
def Ya0:=[Qa (Qv 1) (Q2 (Qn 0)),Qa (Qv 2) (Qd (Qo (Qp (Qq (Q1 (Qw #[]))))))]
def Y9u:MC:=.r0 Ya0
def Ya1:=[Qa (Qv 3) (Qg 1 (Qn 1)),Qa (Qv 4) (Qf 1 false (Qn 3)),Qa (Qv 5) (Qe Q7 Qz (Qn 4) (Qo (Qp (Qq (Q1 (Qw #[]))))))]
def Y9v:MC:=.r0 Ya1
def Ya2:=[Qa (Qv 2) (Qd (Qo (Qp (Qq (Q1 (Qw #[]))))))]
def Y9w:MC:=.r0 Ya2
def Ya3:=[Qa (Qv 6) (Qg 1 (Qn 1)),Qa (Qv 7) (Qf 1 false (Qn 6)),Qa (Qv 8) (Qe Q7 Qx (Qo (Qp (Qq (Q1 (Qw #[32,38]))))) (Qn 7)),Qa (Qv 2) (Qd (Qn 8))]
def Y9x:MC:=.r0 Ya3
def Xxu:MC:=.seq Y9u (.seq (.seq Y9v (.cond (Qn 5) (.seq Y9w .ret) .skip)) (.seq Y9x .ret))
attribute [go_sem] Ya0 Ya1 Ya2 Ya3
theorem Wou:KK QP 229 f229 [1] Xxu [(Qy 2)] 9:=by refine⟨func229,?_,?_,?_,?_⟩<;>kernel_rfl
theorem Y9y:Xaa QP 229=true:=by kernel_rfl
theorem Y9z (h:GI QP gp [(Qy 2)] res 9 Xxu args):Does QP gp 229 args res:=Wou.i Y9y h
end Go.Fw.L07
