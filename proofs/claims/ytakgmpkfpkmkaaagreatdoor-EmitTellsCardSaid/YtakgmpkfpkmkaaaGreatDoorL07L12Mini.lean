/- Small codes. -/
import Derived.Test.YtakgmpkfpkmkaaaGreatDoorFd
import Derived.Test.YtakgmpkfpkmkaaaGreatDoorProg
set_option linter.all false
namespace Go.Fw.L07
open Go Go.Fw
open Go.Proofs.Tryz renaming prog->QP
open Go.Proofs.Tryz (f117 f118 f119 f149 f29 f30 f31 f55 f60 f77 f78 f79 f80 f81 func117 func118 func119 func149 func29 func30 func31 func55 func60 func77 func78 func79 func80 func81)
open Go.Fw.MO renaming op->Qa,chk->Qb,opx->Qc
open Go.Fw.MOp renaming mv->Qd,bin->Qe,load->Qf,fad->Qg,call->Qh,ext->Qi,iad->Qj,len->Qk,store->Ql,pick->Qm,nck->Q0,ibox->Q1,alloc->Q3,bslice->Q4,callv->Q7,not->Q8,app->Q9,build->QA,box->QD,mkS->QF,mkF->QG
open Go.Fw.Opd renaming t->Qn,c->Qo
open Go.Fw.V renaming one->Qp
open Go.Fw.A renaming d->Qq
open Go.Fw.D renaming int->Qr,bool->Qs,sl->QC,nilP->QE
open Go.Fw.Leaf renaming i->Qt
open Go.IntKind renaming i64->Qu
open Option renaming some->Qv
open Go.BinOp renaming add->Qw,lss->Qy,gtr->Q2,eql->Q5,neq->Q6
open Go.Fw.RV renaming t->Qx
open Go.Fw.MC renaming exit->Qz
open _root_.ByteArray renaming mk->QB
variable {gp:Heap} {args:List V} {res:V} {pre:List Ch} {R:V->List Ch->Prop}
def Y7g:=[Qa (Qv 1) (Q1 (Qn 0)),Qa (Qv 2) (Qd (Qo (Qp A.nil))),Qa (Qv 3) (Qd (Qo (Qp (Qq (Qr Qu 0)))))]
def Jby:MC:=.r0 Y7g
def Y7h:=[Qa (Qv 4) (Qf 2 true (Qn 1)),Qa (Qv 5) (Qh 59 [(Qn 4)]),Qa (Qv 6) (Q8 (Qn 5))]
def Jbz:MC:=.r0 Y7h
def Y7i:=[Qa (Qv 2) (Qd (Qo (Qp A.nil))),Qa (Qv 3) (Qd (Qo (Qp (Qq (Qr Qu 72)))))]
def Jb0:MC:=.r0 Y7i
def Y7j:=[Qa (Qv 7) (Qf 2 true (Qn 1)),Qa (Qv 8) (Qg 1 (Qn 1)),Qa (Qv 9) (Qf 1 false (Qn 8)),Qa (Qv 10) (Qk Qt (Qn 9)),Qa (Qv 11) (QF 1 8 [(Qr Qu 0)] (Qn 10)),Qc (Qv 12) (Qh 60 [(Qn 7),(Qo (Qp (Qq (Qr Qu 0)))),(Qo (Qp (Qq (Qr Qu 1)))),(Qn 11)]),Qa (Qv 2) (Qd (Qn 12)),Qa (Qv 3) (Qd (Qo (Qp (Qq (Qr Qu 0)))))]
def Jb1:MC:=.reg true Y7j
def Ykz:MC:=.seq Jby (.seq (.seq Jbz (.cond (Qn 6) (.seq Jb0 .ret) .skip)) (.seq Jb1 .ret))
attribute [go_sem] Y7g Y7h Y7i Y7j
theorem Jh6:KK QP 29 f29 [1] Ykz [(Qx 2),(Qx 3)] 13:=by refine⟨func29,?_,?_,?_,?_⟩<;>kernel_rfl
theorem Jb2:Xaa QP 29=true:=by kernel_rfl
theorem Y7k (h:GI QP gp [(Qx 2),(Qx 3)] res 13 Ykz args):Does QP gp 29 args res:=Jh6.i Jb2 h
def Y7l:=[Qa (Qv 1) (Q1 (Qn 0)),Qa (Qv 2) (Qd (Qo (Qp A.nil))),Qa (Qv 3) (Qd (Qo (Qp (Qq (Qr Qu 0)))))]
def Jb3:MC:=.r0 Y7l
def Y7m:=[Qa (Qv 10) (Qf 2 true (Qn 1)),Qa (Qv 11) (Qh 31 [(Qn 10)]),Qa (Qv 9) (Qd (Qn 11)),Qa (Qv 12) (Qi (Qn 9) 0),Qa (Qv 13) (Qi (Qn 9) 1),Qa (Qv 4) (Qd (Qn 12)),Qa (Qv 5) (Qd (Qn 13))]
def Jb4:MC:=.r0 Y7m
def Y7n:=[Qa (Qv 6) (Qd (Qo (Qp A.nil)))]
def Jb5:MC:=.r0 Y7n
def Y7o:=[Qa (Qv 7) (Qd (Qo (Qp (Qq (Qr Qu 0)))))]
def Jb6:MC:=.r0 Y7o
def Y7p:=[Qa (Qv 8) (Qd (Qo (Qp (Qq (Qr Qu 0)))))]
def Jb7:MC:=.r0 Y7p
def Y7q:=[Qa (Qv 14) (Qd (Qn 8)),Qa (Qv 15) (Qd (Qn 4)),Qa (Qv 16) (Qk Qt (Qn 15)),Qa (Qv 17) (Qe Qt Qy (Qn 14) (Qn 16))]
def Jb8:MC:=.r0 Y7q
def Yk0:=[Qa (Qv 20) (Qd (Qn 4)),Qa (Qv 21) (Qd (Qn 8)),Qa (Qv 22) (Qj 1 (Qn 20) (Qn 21)),Qa (Qv 23) (Qf 1 false (Qn 22)),Qa (Qv 24) (Qe Qt Q2 (Qn 23) (Qo (Qp (Qq (Qr Qu 1))))),Qa (Qv 25) (Qd (Qn 24)),Qb 25 true (Qv 26),Qa (Qv 26) (Qg 1 (Qn 1)),Qb 25 true (Qv 27),Qa (Qv 27) (Qf 1 false (Qn 26)),Qb 25 true (Qv 28),Qa (Qv 28) (Qd (Qn 8)),Qb 25 true (Qv 29),Qa (Qv 29) (Qj 6 (Qn 27) (Qn 28)),Qb 25 true (Qv 30),Qa (Qv 30) (Qg 5 (Qn 29)),Qb 25 true (Qv 31),Qa (Qv 31) (Qf 1 false (Qn 30)),Qb 25 true (Qv 32),Qa (Qv 32) (Qk Qt (Qn 31)),Qb 25 true (Qv 33),Qa (Qv 33) (Qe Qt Q2 (Qn 32) (Qo (Qp (Qq (Qr Qu 0))))),Qa (Qv 34) (Qm (Qn 25) (Qn 33) (Qo (Qp (Qq (Qs false)))))]
def Wt2:MC:=.r0 Yk0
def Yk1:=[Qa (Qv 35) (Qd (Qn 7)),Qa (Qv 36) (Qe Qt Qw (Qn 35) (Qo (Qp (Qq (Qr Qu 1))))),Qa (Qv 7) (Qd (Qn 36))]
def Wt3:MC:=.r0 Yk1
def Yk2:=[Qa (Qv 37) (Qd (Qn 6)),Qa (Qv 38) (Qd (Qn 7)),Qa (Qv 39) (Q4 1 [(Qr Qu 0)] 1 [(0,(Qn 38))]),Qa (Qv 40) (Q9 3 1 8 (Qn 37) (Qn 39)),Qa (Qv 6) (Qd (Qn 40))]
def Wt4:MC:=.r0 Yk2
def Yk3:=[Qa (Qv 41) (Qd (Qn 6)),Qa (Qv 42) (Q4 1 [(Qr Qu 0)] 1 [(0,(Qo (Qp (Qq (Qr Qu 0)))))]),Qa (Qv 43) (Q9 3 1 8 (Qn 41) (Qn 42)),Qa (Qv 6) (Qd (Qn 43))]
def Wt5:MC:=.r0 Yk3
def Wt6:MC:=.seq Wt2 (.cond (Qn 34) (.seq Wt3 Wt4) Wt5)
def Yk4:=[Qa (Qv 18) (Qd (Qn 8)),Qa (Qv 19) (Qe Qt Qw (Qn 18) (Qo (Qp (Qq (Qr Qu 1))))),Qa (Qv 8) (Qd (Qn 19))]
def Wt7:MC:=.r0 Yk4
def Wt8:MC:=.seq Jb7 (.blk 0 (.loop (.seq (.seq Jb8 (.cond (Qn 17) .skip (Qz 0))) (.seq (.blk 1 Wt6) Wt7))))
def Yk5:=[Qa (Qv 44) (Qd (Qn 6)),Qa (Qv 45) (Qd (Qn 5)),Qa (Qv 2) (Qd (Qn 44)),Qa (Qv 3) (Qd (Qn 45))]
def Wt9:MC:=.r0 Yk5
def Wua:MC:=.seq Jb5 (.seq Jb6 (.seq Wt8 (.seq Wt9 .ret)))
def Yk6:MC:=.seq Jb3 (.seq Jb4 Wua)
attribute [go_sem] Y7l Y7m Y7n Y7o Y7p Y7q Yk0 Yk1 Yk2 Yk3 Yk4 Yk5
theorem Jh7:KK QP 30 f30 [1] Yk6 [(Qx 2),(Qx 3)] 46:=by refine⟨func30,?_,?_,?_,?_⟩<;>kernel_rfl
theorem Jb9:Xaa QP 30=true:=by kernel_rfl
theorem Jca (h:GI QP gp [(Qx 2),(Qx 3)] res 46 Yk6 args):Does QP gp 30 args res:=Jh7.i Jb9 h
def Y7r:=[Qa (Qv 1) (Q1 (Qn 0)),Qa (Qv 2) (Qd (Qo (Qp A.nil))),Qa (Qv 3) (Qd (Qo (Qp (Qq (Qr Qu 0)))))]
def Jcb:MC:=.r0 Y7r
def Y7s:=[Qa (Qv 9) (Qf 2 true (Qn 1)),Qa (Qv 10) (Qh 59 [(Qn 9)]),Qa (Qv 11) (Q8 (Qn 10))]
def Jcc:MC:=.r0 Y7s
def Y7t:=[Qa (Qv 2) (Qd (Qo (Qp A.nil))),Qa (Qv 3) (Qd (Qo (Qp (Qq (Qr Qu 72)))))]
def Jcd:MC:=.r0 Y7t
def Y7u:=[Qa (Qv 4) (Qd (Qo (Qp A.nil)))]
def Jce:MC:=.r0 Y7u
def Y7v:=[Qa (Qv 5) (Qd (Qo (Qp (Qq (Qr Qu 0)))))]
def Jcf:MC:=.r0 Y7v
def Yk7:=[Qa (Qv 12) (Qd (Qn 5)),Qa (Qv 13) (Qg 1 (Qn 1)),Qa (Qv 14) (Qf 1 false (Qn 13)),Qa (Qv 15) (Qk Qt (Qn 14)),Qa (Qv 16) (Qe Qt Qy (Qn 12) (Qn 15))]
def Wub:MC:=.r0 Yk7
def Yk8:=[Qa (Qv 6) (Qd (Qo (Qp (Qq (Qr Qu 0)))))]
def Wuc:MC:=.r0 Yk8
def Yk9:=[Qa (Qv 19) (Qd (Qn 5)),Qa (Qv 20) (Qe Qt Q5 (Qn 19) (Qo (Qp (Qq (Qr Qu 0)))))]
def Wud:MC:=.r0 Yk9
def Yla:=[Qa (Qv 6) (Qd (Qo (Qp (Qq (Qr Qu 1)))))]
def Wue:MC:=.r0 Yla
def Ylb:=[Qa (Qv 7) (Qd (Qo (Qp (Qq (Qr Qu 0)))))]
def Wuf:MC:=.r0 Ylb
def Ylc:=[Qa (Qv 21) (Qd (Qn 7)),Qa (Qv 22) (Qg 1 (Qn 1)),Qa (Qv 23) (Qf 1 false (Qn 22)),Qa (Qv 24) (Qk Qt (Qn 23)),Qa (Qv 25) (Qe Qt Qy (Qn 21) (Qn 24))]
def Wug:MC:=.r0 Ylc
def Yld:=[Qa (Qv 8) (Qd (Qo (Qp (Qq (Qr Qu 0)))))]
def Wuh:MC:=.r0 Yld
def Yle:=[Qa (Qv 28) (Qd (Qn 8)),Qa (Qv 29) (Qg 1 (Qn 1)),Qa (Qv 30) (Qf 1 false (Qn 29)),Qa (Qv 31) (Qd (Qn 7)),Qa (Qv 32) (Qj 6 (Qn 30) (Qn 31)),Qa (Qv 33) (Qg 5 (Qn 32)),Qa (Qv 34) (Qf 1 false (Qn 33)),Qa (Qv 35) (Qk Qt (Qn 34)),Qa (Qv 36) (Qe Qt Qy (Qn 28) (Qn 35))]
def Wui:MC:=.r0 Yle
def Ylf:=[Qa (Qv 39) (Qg 1 (Qn 1)),Qa (Qv 40) (Qf 1 false (Qn 39)),Qa (Qv 41) (Qd (Qn 7)),Qa (Qv 42) (Qj 6 (Qn 40) (Qn 41)),Qa (Qv 43) (Qg 5 (Qn 42)),Qa (Qv 44) (Qf 1 false (Qn 43)),Qa (Qv 45) (Qd (Qn 8)),Qa (Qv 46) (Qj 1 (Qn 44) (Qn 45)),Qa (Qv 47) (Qf 1 false (Qn 46)),Qa (Qv 48) (Qd (Qn 5)),Qa (Qv 49) (Qe Qt Q5 (Qn 47) (Qn 48))]
def Wuj:MC:=.r0 Ylf
def Ylg:=[Qa (Qv 50) (Qd (Qn 6)),Qa (Qv 51) (Qe Qt Qw (Qn 50) (Qo (Qp (Qq (Qr Qu 1))))),Qa (Qv 6) (Qd (Qn 51))]
def Wuk:MC:=.r0 Ylg
def Ylh:=[Qa (Qv 37) (Qd (Qn 8)),Qa (Qv 38) (Qe Qt Qw (Qn 37) (Qo (Qp (Qq (Qr Qu 1))))),Qa (Qv 8) (Qd (Qn 38))]
def Wul:MC:=.r0 Ylh
def Wum:MC:=.seq (.seq Wui (.cond (Qn 36) .skip (Qz 4))) (.seq (.blk 5 (.seq Wuj (.cond (Qn 49) Wuk .skip))) Wul)
def Yli:=[Qa (Qv 26) (Qd (Qn 7)),Qa (Qv 27) (Qe Qt Qw (Qn 26) (Qo (Qp (Qq (Qr Qu 1))))),Qa (Qv 7) (Qd (Qn 27))]
def Wun:MC:=.r0 Yli
def Wuo:MC:=.seq (.seq Wug (.cond (Qn 25) .skip (Qz 2))) (.seq (.blk 3 (.seq Wuh (.blk 4 (.loop Wum)))) Wun)
def Ylj:=[Qa (Qv 52) (Qd (Qn 4)),Qa (Qv 53) (Qd (Qn 6)),Qa (Qv 54) (Q4 1 [(Qr Qu 0)] 1 [(0,(Qn 53))]),Qa (Qv 55) (Q9 3 1 8 (Qn 52) (Qn 54)),Qa (Qv 4) (Qd (Qn 55))]
def Wup:MC:=.r0 Ylj
def Wuq:MC:=.seq (.seq Wud (.cond (Qn 20) Wue .skip)) (.seq (.seq Wuf (.blk 2 (.loop Wuo))) Wup)
def Ylk:=[Qa (Qv 17) (Qd (Qn 5)),Qa (Qv 18) (Qe Qt Qw (Qn 17) (Qo (Qp (Qq (Qr Qu 1))))),Qa (Qv 5) (Qd (Qn 18))]
def Wur:MC:=.r0 Ylk
def Wus:MC:=.seq (.seq Wub (.cond (Qn 16) .skip (Qz 0))) (.seq (.blk 1 (.seq Wuc Wuq)) Wur)
def Yll:=[Qa (Qv 56) (Qd (Qn 4)),Qa (Qv 2) (Qd (Qn 56)),Qa (Qv 3) (Qd (Qo (Qp (Qq (Qr Qu 0)))))]
def Wut:MC:=.r0 Yll
def Wuu:MC:=.seq Jce (.seq (.seq Jcf (.blk 0 (.loop Wus))) (.seq Wut .ret))
def Ylm:MC:=.seq Jcb (.seq (.seq Jcc (.cond (Qn 11) (.seq Jcd .ret) .skip)) Wuu)
attribute [go_sem] Y7r Y7s Y7t Y7u Y7v Yk7 Yk8 Yk9 Yla Ylb Ylc Yld Yle Ylf Ylg Ylh Yli Ylj Ylk Yll
theorem Jh8:KK QP 31 f31 [1] Ylm [(Qx 2),(Qx 3)] 57:=by refine⟨func31,?_,?_,?_,?_⟩<;>kernel_rfl
theorem Jcg:Xaa QP 31=true:=by kernel_rfl
theorem Jch (h:GI QP gp [(Qx 2),(Qx 3)] res 57 Ylm args):Does QP gp 31 args res:=Jh8.i Jcg h
def Y7w:=[Qa (Qv 1) (Q1 (Qn 0)),Qa (Qv 2) (Qd (Qo (Qp A.nil))),Qa (Qv 3) (Qd (Qo (Qp (Qq (Qr Qu 0)))))]
def Jci:MC:=.r0 Y7w
def Xjq:=[Qa (Qv 12) (Qf 2 true (Qn 1)),Qa (Qv 13) (Qh 78 [(Qn 12)]),Qa (Qv 11) (Qd (Qn 13)),Qa (Qv 14) (Qi (Qn 11) 0),Qa (Qv 15) (Qi (Qn 11) 1),Qa (Qv 4) (Qd (Qn 14)),Qa (Qv 5) (Qd (Qn 15))]
def Jcj:MC:=.r0 Xjq
def Y7x:=[Qa (Qv 16) (Qd (Qn 5)),Qa (Qv 17) (Qe Qt Q6 (Qn 16) (Qo (Qp (Qq (Qr Qu 0)))))]
def Jck:MC:=.r0 Y7x
def Y7y:=[Qa (Qv 18) (Qd (Qn 5)),Qa (Qv 2) (Qd (Qo (Qp A.nil))),Qa (Qv 3) (Qd (Qn 18))]
def Jcl:MC:=.r0 Y7y
def Y7z:=[Qa (Qv 19) (Qd (Qn 4)),Qa (Qv 20) (MOp.mkMv (Go.Fn.func 79) (Qn 19)),Qa (Qv 6) (Qd (Qn 20))]
def Jcm:MC:=.r0 Y7z
def Yln:=[Qa (Qv 21) MOp.mkM,Qa (Qv 7) (Qd (Qn 21))]
def Wuv:MC:=.r0 Yln
def Ylo:=[Qa (Qv 8) (Qd (Qo (Qp A.nil)))]
def Wuw:MC:=.r0 Ylo
def Ylp:=[Qa (Qv 22) (Qd (Qn 4)),Qa (Qv 23) (Qh 80 [(Qn 22)]),Qa (Qv 24) (Qk Qt (Qn 23)),Qa (Qv 25) (Qd (Qo (Qp (Qq (Qr Qu 0)))))]
def Wux:MC:=.r0 Ylp
def Ylq:=[Qa (Qv 26) (Qe Qt Qy (Qn 25) (Qn 24))]
def Wuy:MC:=.r0 Ylq
def Ylr:=[Qa (Qv 27) (Qd (Qn 25)),Qa (Qv 28) (Qj 1 (Qn 23) (Qn 25)),Qa (Qv 29) (Qf 1 false (Qn 28)),Qa (Qv 9) (Qd (Qn 27)),Qa (Qv 10) (Qd (Qn 29))]
def Wuz:MC:=.r0 Ylr
def Yls:=[Qa (Qv 30) (Qd (Qn 6)),Qa (Qv 31) (Qd (Qn 9)),Qa (Qv 32) (Qd (Qn 10)),Qa (Qv 33) (Q7 (Qn 30) [(Qn 31),(Qn 32)])]
def Wu0:MC:=.r0 Yls
def Ylt:=[Qa (Qv 34) (Qd (Qn 7)),Qa (Qv 35) (Qd (Qn 9)),Qa none (MOp.mupd false [Qt] (Qn 34) (Qn 35) (Qo (Qp (Qq (Qs true)))))]
def Wu1:MC:=.r0 Ylt
def Ylu:=[Qa (Qv 36) (Qd (Qn 8)),Qa (Qv 37) (Qd (Qn 7)),Qa (Qv 38) (Qk Leaf.b (Qn 37)),Qa (Qv 39) (Q4 1 [(Qr Qu 0)] 1 [(0,(Qn 38))]),Qa (Qv 40) (Q9 3 1 8 (Qn 36) (Qn 39)),Qa (Qv 8) (Qd (Qn 40))]
def Wu2:MC:=.r0 Ylu
def Ylv:=[Qa (Qv 41) (Qd (Qn 8)),Qa (Qv 42) (Q4 1 [(Qr Qu 0)] 1 [(0,(Qo (Qp (Qq (Qr Qu 0)))))]),Qa (Qv 43) (Q9 3 1 8 (Qn 41) (Qn 42)),Qa (Qv 8) (Qd (Qn 43))]
def Wu3:MC:=.r0 Ylv
def Wu4:MC:=.seq (.seq Wu0 (.cond (Qn 33) (.seq Wu1 (.seq Wu2 (Qz 1))) .skip)) Wu3
def Ylw:=[Qa (Qv 44) (Qe Qt Qw (Qn 25) (Qo (Qp (Qq (Qr Qu 1))))),Qa (Qv 25) (Qd (Qn 44))]
def Wu5:MC:=.r0 Ylw
def Wu6:MC:=.seq Wuy (.seq (.cond (Qn 26) .skip (Qz 0)) (.seq (.blk 1 (.seq Wuz Wu4)) Wu5))
def Ylx:=[Qa (Qv 45) (Qd (Qn 8)),Qa (Qv 2) (Qd (Qn 45)),Qa (Qv 3) (Qd (Qo (Qp (Qq (Qr Qu 0)))))]
def Wu7:MC:=.r0 Ylx
def Wu8:MC:=.seq Wuw (.seq (.seq Wux (.blk 0 (.loop Wu6))) (.seq Wu7 .ret))
def Wu9:MC:=.seq (.seq Jck (.cond (Qn 17) (.seq Jcl .ret) .skip)) (.seq Jcm (.seq Wuv Wu8))
def Yly:MC:=.seq Jci (.seq Jcj Wu9)
attribute [go_sem] Y7w Y7x Y7y Y7z Yln Ylo Ylp Ylq Ylr Yls Ylt Ylu Ylv Ylw Ylx
theorem Jh9:KK QP 55 f55 [1] Yly [(Qx 2),(Qx 3)] 46:=by refine⟨func55,?_,?_,?_,?_⟩<;>kernel_rfl
theorem Jcn:Xaa QP 55=true:=by kernel_rfl
theorem Jco (h:GI QP gp [(Qx 2),(Qx 3)] res 46 Yly args):Does QP gp 55 args res:=Jh9.i Jcn h
def Y70:=[Qa (Qv 4) (Q1 (Qn 0)),Qa (Qv 8) (Qd (Qo (Qp A.nil)))]
def Jcp:MC:=.r0 Y70
def Y71:=[Qa (Qv 10) (Qd (Qn 3)),Qa (Qv 11) (Qd (Qn 1)),Qa (Qv 12) (Qj 1 (Qn 10) (Qn 11)),Qa (Qv 13) (Qf 1 false (Qn 12)),Qa (Qv 14) (Qe Qt Q2 (Qn 13) (Qo (Qp (Qq (Qr Qu 0)))))]
def Jcq:MC:=.r0 Y71
def Y72:=[Qa (Qv 15) (Qd (Qn 3)),Qa (Qv 8) (Qd (Qn 15))]
def Jcr:MC:=.r0 Y72
def Y73:=[Qa (Qv 16) (Qd (Qn 3)),Qa (Qv 17) (Qd (Qn 1)),Qa (Qv 18) (Qd (Qn 2)),Qa (Qv 19) (Qj 1 (Qn 16) (Qn 17)),Qa none (Ql 1 (Qn 19) (Qn 18))]
def Jcs:MC:=.r0 Y73
def Y74:=[Qa (Qv 9) (Qd (Qo (Qp (Qq (Qr Qu 0)))))]
def Jct:MC:=.r0 Y74
def Ylz:=[Qa (Qv 20) (Qd (Qn 9)),Qa (Qv 21) (Qg 1 (Qn 4)),Qa (Qv 22) (Qf 1 false (Qn 21)),Qa (Qv 23) (Qd (Qn 1)),Qa (Qv 24) (Qj 6 (Qn 22) (Qn 23)),Qa (Qv 25) (Qg 5 (Qn 24)),Qa (Qv 26) (Qf 1 false (Qn 25)),Qa (Qv 27) (Qk Qt (Qn 26)),Qa (Qv 28) (Qe Qt Qy (Qn 20) (Qn 27))]
def Wva:MC:=.r0 Ylz
def Yl0:=[Qa (Qv 31) (Qf 2 true (Qn 4)),Qa (Qv 32) (Qg 1 (Qn 4)),Qa (Qv 33) (Qf 1 false (Qn 32)),Qa (Qv 34) (Qd (Qn 1)),Qa (Qv 35) (Qj 6 (Qn 33) (Qn 34)),Qa (Qv 36) (Qg 5 (Qn 35)),Qa (Qv 37) (Qf 1 false (Qn 36)),Qa (Qv 38) (Qd (Qn 9)),Qa (Qv 39) (Qj 1 (Qn 37) (Qn 38)),Qa (Qv 40) (Qf 1 false (Qn 39)),Qa (Qv 41) (Qd (Qn 2)),Qa (Qv 42) (Qe Qt Qw (Qn 41) (Qo (Qp (Qq (Qr Qu 1))))),Qa (Qv 43) (Qd (Qn 3)),Qc (Qv 44) (Qh 60 [(Qn 31),(Qn 40),(Qn 42),(Qn 43)]),Qa (Qv 3) (Qd (Qn 44))]
def Wvb:MC:=.reg true Yl0
def Yl1:=[Qa (Qv 29) (Qd (Qn 9)),Qa (Qv 30) (Qe Qt Qw (Qn 29) (Qo (Qp (Qq (Qr Qu 1))))),Qa (Qv 9) (Qd (Qn 30))]
def Wvc:MC:=.r0 Yl1
def Wvd:MC:=.seq Jct (.blk 0 (.loop (.seq (.seq Wva (.cond (Qn 28) .skip (Qz 0))) (.seq (.blk 1 Wvb) Wvc))))
def Yl2:=[Qa (Qv 45) (Qd (Qn 3)),Qa (Qv 8) (Qd (Qn 45))]
def Wve:MC:=.r0 Yl2
def Wvf:MC:=.seq (.seq Jcq (.cond (Qn 14) (.seq Jcr .ret) .skip)) (.seq Jcs (.seq Wvd (.seq Wve .ret)))
def Yl3:MC:=.seq Jcp Wvf
attribute [go_sem] Y70 Y71 Y72 Y73 Y74 Ylz Yl0 Yl1 Yl2
theorem Jia:KK QP 60 f60 [4] Yl3 [(Qx 8)] 46:=by refine⟨func60,?_,?_,?_,?_⟩<;>kernel_rfl
theorem Y75:Xaa QP 60=true:=by kernel_rfl
theorem Yl4 (h:GT QP gp [(Qx 8)] pre R 46 Yl3 args):Tri QP gp 60 args pre R:=Jia.t h
def Y76:=[Qa (Qv 1) (Q1 (Qn 0)),Qa (Qv 2) (Qd (Qo (Qp A.nil))),Qa (Qv 3) (Qd (Qo (Qp (Qq (Qr Qu 0)))))]
def Jcu:MC:=.r0 Y76
def Xrt:=[Qa (Qv 8) (Qf 2 true (Qn 1)),Qa (Qv 9) (Qh 78 [(Qn 8)]),Qa (Qv 7) (Qd (Qn 9)),Qa (Qv 10) (Qi (Qn 7) 0),Qa (Qv 11) (Qi (Qn 7) 1),Qa (Qv 4) (Q3 [QE]),Qa none (Ql 1 (Qn 4) (Qn 10)),Qa (Qv 5) (Qd (Qn 11))]
def Jcv:MC:=.r0 Xrt
def Y77:=[Qa (Qv 12) (Qd (Qn 5)),Qa (Qv 13) (Qe Qt Q6 (Qn 12) (Qo (Qp (Qq (Qr Qu 0)))))]
def Jcw:MC:=.r0 Y77
def Y78:=[Qa (Qv 14) (Qd (Qn 5)),Qa (Qv 2) (Qd (Qo (Qp A.nil))),Qa (Qv 3) (Qd (Qn 14))]
def Jcx:MC:=.r0 Y78
def Y79:=[Qa (Qv 6) (Q3 [D.nilF])]
def Jcy:MC:=.r0 Y79
def Yl5:=[Qa (Qv 15) (QG (Go.Fn.func 117) [(Qn 4),(Qn 6)]),Qa none (Ql 1 (Qn 6) (Qn 15))]
def Wvg:MC:=.r0 Yl5
def Yl6:=[Qa (Qv 16) (Qf 1 false (Qn 6)),Qa (Qv 17) (Qf 1 false (Qn 4)),Qa (Qv 18) (Q0 (Qn 17)),Qa (Qv 19) (Qg 0 (Qn 18)),Qa (Qv 20) (Qg 0 (Qn 19)),Qa (Qv 21) (Qf 1 false (Qn 20)),Qc (Qv 22) (Q7 (Qn 16) [(Qn 21),(Qo (Qp (Qq (Qr Qu 1))))])]
def Wvh:MC:=.reg true Yl6
def Xl8:=[Qa (Qv 23) (Qf 1 false (Qn 4)),Qa (Qv 24) (Q0 (Qn 23)),Qa (Qv 25) (Qg 2 (Qn 24)),Qa (Qv 26) (Qf 1 false (Qn 25)),Qa (Qv 2) (Qd (Qn 26)),Qa (Qv 3) (Qd (Qo (Qp (Qq (Qr Qu 0)))))]
def Wvi:MC:=.r0 Xl8
def Wvj:MC:=.seq Jcy (.seq Wvg (.seq Wvh (.seq Wvi .ret)))
def Wvk:MC:=.seq Jcv (.seq (.seq Jcw (.cond (Qn 13) (.seq Jcx .ret) .skip)) Wvj)
def Yl7:MC:=.seq Jcu Wvk
attribute [go_sem] Y76 Y77 Y78 Y79 Yl5 Yl6
theorem Jib:KK QP 77 f77 [1] Yl7 [(Qx 2),(Qx 3)] 27:=by refine⟨func77,?_,?_,?_,?_⟩<;>kernel_rfl
theorem Jcz:Xaa QP 77=true:=by kernel_rfl
theorem Jc0 (h:GI QP gp [(Qx 2),(Qx 3)] res 27 Yl7 args):Does QP gp 77 args res:=Jib.i Jcz h
def Y8a:=[Qa (Qv 1) (Q1 (Qn 0)),Qa (Qv 2) (Qd (Qo (Qp (Qq QE)))),Qa (Qv 3) (Qd (Qo (Qp (Qq (Qr Qu 0)))))]
def Jc1:MC:=.r0 Y8a
def Y8b:=[Qa (Qv 4) (Qf 2 true (Qn 1)),Qa (Qv 5) (Qh 53 [(Qn 4)]),Qa (Qv 6) (Q8 (Qn 5))]
def Jc2:MC:=.r0 Y8b
def Y8c:=[Qa (Qv 2) (Qd (Qo (Qp (Qq QE)))),Qa (Qv 3) (Qd (Qo (Qp (Qq (Qr Qu 72)))))]
def Jc3:MC:=.r0 Y8c
def Y8d:=[Qa (Qv 7) (Qf 2 true (Qn 1)),Qa (Qv 8) (Qg 1 (Qn 1)),Qa (Qv 9) (Qf 1 false (Qn 8)),Qa (Qv 10) (Qk Qt (Qn 9)),Qa (Qv 11) (QF 1 8 [(Qr Qu 0)] (Qn 10)),Qa (Qv 12) (QA [(Qr Qu 0),(QC []),(QC [])] [(0,(2,(Qn 7))),(2,(1,(Qn 11)))]),Qa (Qv 13) (QD (Qn 12)),Qa (Qv 2) (Qd (Qn 13)),Qa (Qv 3) (Qd (Qo (Qp (Qq (Qr Qu 0)))))]
def Jc4:MC:=.reg true Y8d
def Yl8:MC:=.seq Jc1 (.seq (.seq Jc2 (.cond (Qn 6) (.seq Jc3 .ret) .skip)) (.seq Jc4 .ret))
attribute [go_sem] Y8a Y8b Y8c Y8d
theorem Jic:KK QP 78 f78 [1] Yl8 [(Qx 2),(Qx 3)] 14:=by refine⟨func78,?_,?_,?_,?_⟩<;>kernel_rfl
theorem Yl9:Xaa QP 78=true:=by kernel_rfl
theorem Wvl (h:GT QP gp [(Qx 2),(Qx 3)] pre R 14 Yl8 args):Tri QP gp 78 args pre R:=Jic.t h
def Y8e:=[Qa (Qv 6) (Qd (Qo (Qp (Qq (Qs false)))))]
def Jc5:MC:=.r0 Y8e
def Y8f:=[Qa (Qv 8) (Qd (Qn 0)),Qa (Qv 9) (Q0 (Qn 8)),Qa (Qv 10) (Qg 0 (Qn 9)),Qa (Qv 11) (Qg 1 (Qn 10)),Qa (Qv 12) (Qf 1 false (Qn 11)),Qa (Qv 13) (Qd (Qn 1)),Qa (Qv 14) (Qj 6 (Qn 12) (Qn 13)),Qa (Qv 15) (Qf 6 true (Qn 14)),Qa (Qv 7) (Q3 [(Qr Qu 0),(Qr Qu 0),(Qr Qu 0),(D.str (QB #[])),(QC []),(QC [])]),Qa none (Ql 6 (Qn 7) (Qn 15))]
def Jc6:MC:=.r0 Y8f
def Y8g:=[Qa (Qv 17) (Qh 118 []),Qa (Qv 18) (Qg 0 (Qn 7)),Qa (Qv 19) (Qf 1 false (Qn 18)),Qa (Qv 20) (MOp.idxA 3 (Qn 17) (Qn 19)),Qa (Qv 21) (Q8 (Qn 20)),Qa (Qv 16) (Qd (Qn 21))]
def Jc7:MC:=.reg true Y8g
def Y8h:=[Qa (Qv 23) (Qg 5 (Qn 7)),Qa (Qv 24) (Qf 1 false (Qn 23)),Qa (Qv 25) (Qk Qt (Qn 24)),Qa (Qv 26) (Qe Qt Q5 (Qn 25) (Qo (Qp (Qq (Qr Qu 0))))),Qa (Qv 22) (Qd (Qn 26))]
def Jc8:MC:=.r0 Y8h
def Yma:=[Qa (Qv 6) (Qd (Qo (Qp (Qq (Qs false)))))]
def Wvm:MC:=.r0 Yma
def Wvn:MC:=.seq Jc6 (.blk 0 (.seq (.blk 2 (.blk 1 (.seq (.seq (.seq Jc7 (.cond (Qn 16) (Qz 1) .skip)) (.seq Jc8 (.cond (Qn 22) (Qz 2) .skip))) (Qz 0)))) (.seq (.seq Wvm .ret) (Qz 0))))
def Ymb:=[Qa (Qv 27) (Qd (Qn 2)),Qa (Qv 28) (Qe Qt Q2 (Qn 27) (Qo (Qp (Qq (Qr Qu 1))))),Qa (Qv 6) (Qd (Qn 28))]
def Wvo:MC:=.r0 Ymb
def Ymc:MC:=.seq Jc5 (.seq Wvn (.seq Wvo .ret))
attribute [go_sem] Y8e Y8f Y8g Y8h Yma Ymb
theorem Jid:KK QP 79 f79 [] Ymc [(Qx 6)] 29:=by refine⟨func79,?_,?_,?_,?_⟩<;>kernel_rfl
theorem Jc9:Xaa QP 79=true:=by kernel_rfl
theorem Wvp (h:GT QP gp [(Qx 6)] pre R 29 Ymc args):Tri QP gp 79 args pre R:=Jid.t h
def Y8i:=[Qa (Qv 1) (QD (Qn 0)),Qa (Qv 2) (Qd (Qo (Qp A.nil)))]
def Jda:MC:=.r0 Y8i
def Y8j:=[Qa (Qv 4) (Qf 1 false (Qn 1)),Qa (Qv 5) (Q0 (Qn 4)),Qa (Qv 6) (Qg 2 (Qn 5)),Qa (Qv 7) (Qf 1 false (Qn 6)),Qa (Qv 8) (Qj 1 (Qn 7) (Qo (Qp (Qq (Qr Qu 0))))),Qa (Qv 9) (Qf 1 false (Qn 8)),Qa (Qv 10) (Qe Qt Qw (Qn 9) (Qo (Qp (Qq (Qr Qu 1))))),Qa (Qv 11) (Qj 1 (Qn 7) (Qo (Qp (Qq (Qr Qu 0))))),Qa none (Ql 1 (Qn 11) (Qn 10))]
def Jdb:MC:=.r0 Y8j
def Y8k:=[Qa (Qv 12) (Qf 1 false (Qn 1)),Qa (Qv 13) (Qh 119 [(Qn 12)])]
def Jdc:MC:=.r0 Y8k
def Y8l:=[Qa (Qv 3) (Q3 [(Qr Qu 0),(Qr Qu 0)]),Qa none (Ql 2 (Qn 3) (Qn 14))]
def Jdd:MC:=.r0 Y8l
def Y8m:=[Qa (Qv 15) (Qf 1 false (Qn 1)),Qa (Qv 16) (Q0 (Qn 15)),Qa (Qv 17) (Qg 2 (Qn 16)),Qa (Qv 18) (Qf 1 false (Qn 17)),Qa (Qv 19) (Qg 1 (Qn 3)),Qa (Qv 20) (Qf 1 false (Qn 19)),Qa (Qv 21) (Qj 1 (Qn 18) (Qn 20)),Qa (Qv 22) (Qf 1 false (Qn 21)),Qa (Qv 23) (Qe Qt Qw (Qn 22) (Qo (Qp (Qq (Qr Qu 1))))),Qa (Qv 24) (Qj 1 (Qn 18) (Qn 20)),Qa none (Ql 1 (Qn 24) (Qn 23))]
def Jde:MC:=.reg true Y8m
def Jdf:MC:=.rf (Qn 13) [14] Jdd (.blk 1 Jde)
def Y8n:=[Qa (Qv 25) (Qf 1 false (Qn 1)),Qa (Qv 26) (Q0 (Qn 25)),Qa (Qv 27) (Qg 2 (Qn 26)),Qa (Qv 28) (Qf 1 false (Qn 27)),Qa (Qv 2) (Qd (Qn 28))]
def Jdg:MC:=.r0 Y8n
def Wvq:MC:=.seq Jdb (.seq (.seq Jdc (.blk 0 Jdf)) (.seq Jdg .ret))
def Ymd:MC:=.seq Jda Wvq
attribute [go_sem] Y8i Y8j Y8k Y8l Y8m Y8n
theorem Jie:KK QP 80 f80 [] Ymd [(Qx 2)] 29:=by refine⟨func80,?_,?_,?_,?_⟩<;>kernel_rfl
theorem Y8o:Xaa QP 80=true:=by kernel_rfl
theorem Wvr (h:GT QP gp [(Qx 2)] pre R 29 Ymd args):Tri QP gp 80 args pre R:=Jie.t h
def Y8p:=[Qa (Qv 1) (Q1 (Qn 0)),Qa (Qv 2) (Qd (Qo (Qp A.nil))),Qa (Qv 3) (Qd (Qo (Qp (Qq (Qr Qu 0)))))]
def Jdh:MC:=.r0 Y8p
def X01:=[Qa (Qv 7) (Qf 2 true (Qn 1)),Qa (Qv 8) (Qh 78 [(Qn 7)]),Qa (Qv 6) (Qd (Qn 8)),Qa (Qv 9) (Qi (Qn 6) 0),Qa (Qv 10) (Qi (Qn 6) 1),Qa (Qv 4) (Qd (Qn 9)),Qa (Qv 5) (Qd (Qn 10))]
def Jdi:MC:=.r0 X01
def Y8q:=[Qa (Qv 11) (Qd (Qn 5)),Qa (Qv 12) (Qe Qt Q6 (Qn 11) (Qo (Qp (Qq (Qr Qu 0)))))]
def Jdj:MC:=.r0 Y8q
def Y8r:=[Qa (Qv 13) (Qd (Qn 5)),Qa (Qv 2) (Qd (Qo (Qp A.nil))),Qa (Qv 3) (Qd (Qn 13))]
def Jdk:MC:=.r0 Y8r
def Y8s:=[Qa (Qv 14) (Qd (Qn 4)),Qa (Qv 15) (Qh 80 [(Qn 14)]),Qa (Qv 2) (Qd (Qn 15)),Qa (Qv 3) (Qd (Qo (Qp (Qq (Qr Qu 0)))))]
def Jdl:MC:=.r0 Y8s
def Wvs:MC:=.seq Jdi (.seq (.seq Jdj (.cond (Qn 12) (.seq Jdk .ret) .skip)) (.seq Jdl .ret))
def Yme:MC:=.seq Jdh Wvs
attribute [go_sem] Y8p Y8q Y8r Y8s
theorem Jif:KK QP 81 f81 [1] Yme [(Qx 2),(Qx 3)] 16:=by refine⟨func81,?_,?_,?_,?_⟩<;>kernel_rfl
theorem Jdm:Xaa QP 81=true:=by kernel_rfl
theorem Jdn (h:GI QP gp [(Qx 2),(Qx 3)] res 16 Yme args):Does QP gp 81 args res:=Jif.i Jdm h
def Ymf:=[Qa (Qv 8) (Qf 1 false (Qn 2)),Qa (Qv 9) (Q0 (Qn 8)),Qa (Qv 10) (Qg 2 (Qn 9)),Qa (Qv 11) (Qf 1 false (Qn 10)),Qa (Qv 12) (Qd (Qn 0)),Qa (Qv 13) (Qj 1 (Qn 11) (Qn 12)),Qa (Qv 14) (Qf 1 false (Qn 13)),Qa (Qv 15) (Qe Qt Q2 (Qn 14) (Qo (Qp (Qq (Qr Qu 0)))))]
def Wvt:MC:=.r0 Ymf
def Ymg:=[Qa (Qv 16) (Qf 1 false (Qn 2)),Qa (Qv 17) (Q0 (Qn 16)),Qa (Qv 18) (Qg 2 (Qn 17)),Qa (Qv 19) (Qf 1 false (Qn 18)),Qa (Qv 20) (Qd (Qn 0)),Qa (Qv 21) (Qd (Qn 1)),Qa (Qv 22) (Qj 1 (Qn 19) (Qn 20)),Qa none (Ql 1 (Qn 22) (Qn 21))]
def Wvu:MC:=.r0 Ymg
def Ymh:=[Qa (Qv 23) (Qf 1 false (Qn 2)),Qa (Qv 24) (Q0 (Qn 23)),Qa (Qv 25) (Qg 0 (Qn 24)),Qa (Qv 26) (Qg 1 (Qn 25)),Qa (Qv 27) (Qf 1 false (Qn 26)),Qa (Qv 28) (Qd (Qn 0)),Qa (Qv 29) (Qj 6 (Qn 27) (Qn 28)),Qa (Qv 30) (Qg 5 (Qn 29)),Qa (Qv 31) (Qf 1 false (Qn 30)),Qa (Qv 32) (Qk Qt (Qn 31)),Qa (Qv 33) (Qd (Qo (Qp (Qq (Qr Qu 0)))))]
def Wvv:MC:=.r0 Ymh
def Ymi:=[Qa (Qv 34) (Qe Qt Qy (Qn 33) (Qn 32))]
def Wvw:MC:=.r0 Ymi
def X02:=[Qa (Qv 35) (Qj 1 (Qn 31) (Qn 33)),Qa (Qv 36) (Qf 1 false (Qn 35)),Qa (Qv 7) (Qd (Qn 36))]
def Yxc:MC:=.r0 X02
def X03:=[Qa (Qv 37) (Qf 1 false (Qn 3)),Qa (Qv 38) (Qd (Qn 7)),Qa (Qv 39) (Qd (Qn 1)),Qa (Qv 40) (Qe Qt Qw (Qn 39) (Qo (Qp (Qq (Qr Qu 1))))),Qa (Qv 41) (Q7 (Qn 37) [(Qn 38),(Qn 40)])]
def Yxd:MC:=.r0 X03
def X04:=[Qa (Qv 42) (Qe Qt Qw (Qn 33) (Qo (Qp (Qq (Qr Qu 1))))),Qa (Qv 33) (Qd (Qn 42))]
def Yxe:MC:=.r0 X04
def Yxf:MC:=.seq Wvw (.seq (.cond (Qn 34) .skip (Qz 0)) (.seq (.blk 1 (.seq Yxc Yxd)) Yxe))
def X05:MC:=.seq (.seq Wvt (.cond (Qn 15) .ret .skip)) (.seq Wvu (.seq Wvv (.blk 0 (.loop Yxf))))
attribute [go_sem] Ymf Ymg Ymh Ymi X02 X03 X04
theorem Jdo:KK QP 117 f117 [] X05 [] 43:=by refine⟨func117,?_,?_,?_,?_⟩<;>kernel_rfl
theorem Ymj:Xaa QP 117=true:=by kernel_rfl
theorem X06 (h:GT QP gp [] pre R 43 X05 args):Tri QP gp 117 args pre R:=Jdo.t h
def Ymk:=[Qa (Qv 0) (Q3 [(Qs false),(Qs false),(Qs false)])]
def Wvx:MC:=.r0 Ymk
def Yml:=[Qa (Qv 1) (QA [(Qs false),(Qs false),(Qs false)] [(1,(1,(Qo (Qp (Qq (Qs true)))))),(2,(1,(Qo (Qp (Qq (Qs true))))))]),Qa none (Ql 3 (Qn 0) (Qn 1))]
def Wvy:MC:=.r0 Yml
def Ymm:MC:=.seq Wvx (.seq Wvy .ret)
attribute [go_sem] Ymk Yml
theorem Jdp:KK QP 118 f118 [] Ymm [(RV.cell 0 3 true)] 2:=by refine⟨func118,?_,?_,?_,?_⟩<;>kernel_rfl
theorem Wvz:Xaa QP 118=true:=by kernel_rfl
theorem Wv0 (h:GI QP gp [(RV.cell 0 3 true)] res 2 Ymm args):Does QP gp 118 args res:=Jdp.i Wvz h
def Ymn:=[Qa (Qv 1) (QD (Qn 0)),Qa (Qv 2) (Qd (Qo (Qp (Qq D.nilF))))]
def Wv1:MC:=.r0 Ymn
def Ymo:=[Qa (Qv 3) (QG (Go.Fn.func 149) [(Qn 1)]),Qa (Qv 2) (Qd (Qn 3))]
def Wv2:MC:=.r0 Ymo
def Ymp:MC:=.seq Wv1 (.seq Wv2 .ret)
attribute [go_sem] Ymn Ymo
theorem Jdq:KK QP 119 f119 [] Ymp [(Qx 2)] 4:=by refine⟨func119,?_,?_,?_,?_⟩<;>kernel_rfl
theorem Wv3:Xaa QP 119=true:=by kernel_rfl
theorem Yxg (h:GT QP gp [(Qx 2)] pre R 4 Ymp args):Tri QP gp 119 args pre R:=Jdq.t h
def Ymq:=[Qa (Qv 7) (Qf 1 false (Qn 1)),Qa (Qv 8) (Q0 (Qn 7)),Qa (Qv 9) (Qg 0 (Qn 8)),Qa (Qv 10) (Qg 1 (Qn 9)),Qa (Qv 11) (Qf 1 false (Qn 10)),Qa (Qv 12) (Qk Qt (Qn 11)),Qa (Qv 13) (Qd (Qo (Qp (Qq (Qr Qu 0)))))]
def Wv4:MC:=.r0 Ymq
def Ymr:=[Qa (Qv 14) (Qe Qt Qy (Qn 13) (Qn 12))]
def Wv5:MC:=.r0 Ymr
def Yms:=[Qa (Qv 15) (Qd (Qn 13)),Qa (Qv 16) (Qj 6 (Qn 11) (Qn 13)),Qa (Qv 17) (Qf 6 true (Qn 16)),Qa (Qv 4) (Q3 [(Qr Qu 0),(Qr Qu 0),(Qr Qu 0),(D.str (QB #[])),(QC []),(QC [])]),Qa (Qv 3) (Qd (Qn 15)),Qa none (Ql 6 (Qn 4) (Qn 17))]
def Wv6:MC:=.r0 Yms
def Ymt:=[Qa (Qv 18) (Qg 5 (Qn 4)),Qa (Qv 19) (Qf 1 false (Qn 18)),Qa (Qv 20) (Qk Qt (Qn 19)),Qa (Qv 21) (Qd (Qo (Qp (Qq (Qr Qu 0)))))]
def Wv7:MC:=.r0 Ymt
def Ymu:=[Qa (Qv 22) (Qe Qt Qy (Qn 21) (Qn 20))]
def Wv8:MC:=.r0 Ymu
def X07:=[Qa (Qv 23) (Qj 1 (Qn 19) (Qn 21)),Qa (Qv 24) (Qf 1 false (Qn 23)),Qa (Qv 6) (Qd (Qn 24))]
def Yxh:MC:=.r0 X07
def X08:=[Qa (Qv 25) (Qd (Qn 0)),Qa (Qv 26) (Qd (Qn 3)),Qa (Qv 27) (Qd (Qn 6)),Qa (Qv 28) (QA [(Qr Qu 0),(Qr Qu 0)] [(0,(1,(Qn 26))),(1,(1,(Qn 27)))]),Qa (Qv 29) (Q7 (Qn 25) [(Qn 28)]),Qa (Qv 30) (Q8 (Qn 29))]
def Yxi:MC:=.r0 X08
def X09:=[Qa (Qv 31) (Qe Qt Qw (Qn 21) (Qo (Qp (Qq (Qr Qu 1))))),Qa (Qv 21) (Qd (Qn 31))]
def Yxj:MC:=.r0 X09
def Yxk:MC:=.seq Wv8 (.seq (.cond (Qn 22) .skip (Qz 2)) (.seq (.blk 3 (.seq Yxh (.seq Yxi (.cond (Qn 30) (Qz 0) .skip)))) Yxj))
def X1a:=[Qa (Qv 32) (Qe Qt Qw (Qn 13) (Qo (Qp (Qq (Qr Qu 1))))),Qa (Qv 13) (Qd (Qn 32))]
def Yxl:MC:=.r0 X1a
def Yxm:MC:=.seq (.blk 1 (.seq Wv6 (.seq Wv7 (.blk 2 (.loop Yxk))))) Yxl
def X1b:MC:=.scope (.seq .skip (.seq Wv4 (.blk 0 (.loop (.seq Wv5 (.seq (.cond (Qn 14) .skip (Qz 0)) Yxm))))))
attribute [go_sem] Ymq Ymr Yms Ymt Ymu X07 X08 X09 X1a
theorem Jdr:KK QP 149 f149 [] X1b [] 33:=by refine⟨func149,?_,?_,?_,?_⟩<;>kernel_rfl
theorem Wv9:Xaa QP 149=true:=by kernel_rfl
theorem Yxn (h:GT QP gp [] pre R 33 X1b args):Tri QP gp 149 args pre R:=Jdr.t h
-- f150: trC none
-- f151: trC none
-- f152: trC none
end Go.Fw.L07
