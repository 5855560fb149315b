/- Small codes. -/
import Derived.Test.YtejnfjophhnaeaaGreatDoorFd
import Derived.Test.YtejnfjophhnaeaaGreatDoorProg
set_option linter.all false
namespace Go.Fw.L07
open Go Go.Fw
open Go.Proofs.Tryz renaming prog->QP
open Go.Proofs.Tryz (f125 f14 f15 f37 f38 f40 f45 f71 f74 f75 f97 func125 func14 func15 func37 func38 func40 func45 func71 func74 func75 func97)
open Go.Fw.MO renaming op->Qa,chk->Qb
open Go.Fw.MOp renaming mv->Qd,bin->Qe,load->Qf,fad->Qg,call->Qh,ext->Qi,iad->Qj,len->Qk,store->Ql,pick->Qm
open Go.Fw.Opd renaming t->Qn,c->Qo
open Go.Fw.V renaming one->Qp
open Go.Fw.A renaming d->Qq
open Go.Fw.D renaming int->Qr,bool->Qs
open Go.Fw.Leaf renaming i->Qt
open Go.IntKind renaming i64->Qu
open Option renaming some->Qv
variable {gp:Xal} {args:List V} {res:V} {pre:List Ch} {R:V->List Ch->Prop}
def Yyw:List MO:=[Qa (Qv 1) (MOp.ibox (Qn 0)),Qa (Qv 2) (Qd (Qo (Qp A.nil))),Qa (Qv 3) (Qd (Qo (Qp (Qq (Qr Qu 0)))))]
def Wyk:MC:=.r0 Yyw
def Yyx:List MO:=[Qa (Qv 7) (Qf 2 true (Qn 1)),Qa (Qv 8) (Qh 36 [(Qn 7)]),Qa (Qv 6) (Qd (Qn 8)),Qa (Qv 9) (Qi (Qn 6) 0),Qa (Qv 10) (Qi (Qn 6) 1),Qa (Qv 4) (Qd (Qn 9)),Qa (Qv 5) (Qd (Qn 10))]
def Wyl:MC:=.r0 Yyx
def Yyy:List MO:=[Qa (Qv 11) (Qd (Qn 5)),Qa (Qv 12) (Qe Qt Go.BinOp.neq (Qn 11) (Qo (Qp (Qq (Qr Qu 0)))))]
def Wym:MC:=.r0 Yyy
def Yyz:List MO:=[Qa (Qv 13) (Qd (Qn 5)),Qa (Qv 2) (Qd (Qo (Qp A.nil))),Qa (Qv 3) (Qd (Qn 13))]
def Wyn:MC:=.r0 Yyz
def Yf5:List MO:=[Qa (Qv 14) (Qf 2 true (Qn 1)),Qa (Qv 15) (Qh 37 [(Qn 14)]),Qa (Qv 16) (Qh 38 [(Qn 15)]),Qa (Qv 2) (Qd (Qn 16)),Qa (Qv 3) (Qd (Qo (Qp (Qq (Qr Qu 0)))))]
def Wij:MC:=.r0 Yf5
def Wik:MC:=.seq (.seq Wyl (.seq Wym (.cond (Qn 12) (.seq Wyn .ret) .skip))) (.seq Wij .ret)
def Yf6:MC:=.seq Wyk Wik
attribute [go_sem] Yyw Yyx Yyy Yyz Yf5
theorem W5y:KK QP 14 f14 [1] Yf6 [(RV.t 2),(RV.t 3)] 17:=by refine⟨func14,?_,?_,?_,?_⟩<;>kernel_rfl
theorem Wyo:Xaa QP 14=true:=by kernel_rfl
theorem Wyp (h:GI QP gp [(RV.t 2),(RV.t 3)] res 17 Yf6 args):Xak QP gp 14 args res:=W5y.i Wyo h
def Yy0:List MO:=[Qa (Qv 1) (MOp.ibox (Qn 0)),Qa (Qv 2) (Qd (Qo (Qp A.nil))),Qa (Qv 3) (Qd (Qo (Qp (Qq (Qr Qu 0)))))]
def Wyq:MC:=.r0 Yy0
def Yy1:List MO:=[Qa (Qv 13) (Qf 2 true (Qn 1)),Qa (Qv 14) (Qh 39 [(Qn 13)]),Qa (Qv 12) (Qd (Qn 14)),Qa (Qv 15) (Qi (Qn 12) 0),Qa (Qv 16) (Qi (Qn 12) 1),Qa (Qv 4) (Qd (Qn 15)),Qa (Qv 5) (Qd (Qn 16))]
def Wyr:MC:=.r0 Yy1
def Yy2:List MO:=[Qa (Qv 17) (Qd (Qn 5)),Qa (Qv 18) (Qe Qt Go.BinOp.neq (Qn 17) (Qo (Qp (Qq (Qr Qu 0)))))]
def Wys:MC:=.r0 Yy2
def Yy3:List MO:=[Qa (Qv 19) (Qd (Qn 5)),Qa (Qv 2) (Qd (Qo (Qp A.nil))),Qa (Qv 3) (Qd (Qn 19))]
def Wyt:MC:=.r0 Yy3
def Yy4:List MO:=[Qa (Qv 20) (Qf 2 true (Qn 1)),Qa (Qv 21) (Qh 40 [(Qn 20)]),Qa (Qv 6) (Qd (Qn 21))]
def Wyu:MC:=.r0 Yy4
def Yf7:List MO:=[Qa (Qv 7) (Qd (Qo (Qp A.nil)))]
def Wil:MC:=.r0 Yf7
def Yf8:List MO:=[Qa (Qv 8) (Qd (Qo (Qp (Qq (Qr Qu 0)))))]
def Wim:MC:=.r0 Yf8
def Yf9:List MO:=[Qa (Qv 9) (Qd (Qo (Qp (Qq (Qr Qu 0)))))]
def Win:MC:=.r0 Yf9
def Yga:List MO:=[Qa (Qv 22) (Qd (Qn 9)),Qa (Qv 23) (Qg 1 (Qn 1)),Qa (Qv 24) (Qf 1 false (Qn 23)),Qa (Qv 25) (Qk Qt (Qn 24)),Qa (Qv 26) (Qe Qt Go.BinOp.lss (Qn 22) (Qn 25))]
def Wio:MC:=.r0 Yga
def Ygb:List MO:=[Qa (Qv 29) (Qd (Qn 8)),Qa (Qv 10) (Qd (Qn 29))]
def Wip:MC:=.r0 Ygb
def Ygc:List MO:=[Qa (Qv 30) (Qd (Qn 9)),Qa (Qv 31) (Qe Qt Go.BinOp.sub (Qn 30) (Qo (Qp (Qq (Qr Qu 1))))),Qa (Qv 11) (Qd (Qn 31))]
def Wiq:MC:=.r0 Ygc
def Ygd:List MO:=[Qa (Qv 32) (Qd (Qn 11)),Qa (Qv 33) (Qe Qt Go.BinOp.geq (Qn 32) (Qo (Qp (Qq (Qr Qu 0)))))]
def Wir:MC:=.r0 Ygd
def Yge:List MO:=[Qa (Qv 36) (Qd (Qn 6)),Qa (Qv 37) (Qd (Qn 9)),Qa (Qv 38) (Qj 1 (Qn 36) (Qn 37)),Qa (Qv 39) (Qf 1 false (Qn 38)),Qa (Qv 40) (Qd (Qn 11)),Qa (Qv 41) (Qj 1 (Qn 39) (Qn 40)),Qa (Qv 42) (Qf 1 false (Qn 41))]
def Wis:MC:=.r0 Yge
def Ygf:List MO:=[Qa (Qv 43) (Qd (Qn 7)),Qa (Qv 44) (Qd (Qn 11)),Qa (Qv 45) (Qj 1 (Qn 43) (Qn 44)),Qa (Qv 46) (Qf 1 false (Qn 45)),Qa (Qv 10) (Qd (Qn 46))]
def Wit:MC:=.r0 Ygf
def Ygg:List MO:=[Qa (Qv 34) (Qd (Qn 11)),Qa (Qv 35) (Qe Qt Go.BinOp.sub (Qn 34) (Qo (Qp (Qq (Qr Qu 1))))),Qa (Qv 11) (Qd (Qn 35))]
def Wiu:MC:=.r0 Ygg
def Wiv:MC:=.seq (.seq Wir (.cond (Qn 33) .skip (MC.exit 2))) (.seq (.blk 3 (.seq Wis (.cond (Qn 42) Wit .skip))) Wiu)
def Ygh:List MO:=[Qa (Qv 47) (Qd (Qn 10)),Qa (Qv 48) (Qd (Qn 8)),Qa (Qv 49) (Qe Qt Go.BinOp.eql (Qn 47) (Qn 48))]
def Wiw:MC:=.r0 Ygh
def Ygi:List MO:=[Qa (Qv 50) (Qd (Qn 8)),Qa (Qv 51) (Qe Qt Go.BinOp.add (Qn 50) (Qo (Qp (Qq (Qr Qu 1))))),Qa (Qv 8) (Qd (Qn 51))]
def Wix:MC:=.r0 Ygi
def Ygj:List MO:=[Qa (Qv 52) (Qd (Qn 7)),Qa (Qv 53) (Qd (Qn 10)),Qa (Qv 54) (MOp.bslice 1 [(Qr Qu 0)] 1 [(0,(Qn 53))]),Qa (Qv 55) (MOp.app 3 1 8 (Qn 52) (Qn 54)),Qa (Qv 7) (Qd (Qn 55))]
def Wiy:MC:=.r0 Ygj
def Wiz:MC:=.seq (.seq Wiq (.blk 2 (.loop Wiv))) (.seq (.seq Wiw (.cond (Qn 49) Wix .skip)) Wiy)
def Ygk:List MO:=[Qa (Qv 27) (Qd (Qn 9)),Qa (Qv 28) (Qe Qt Go.BinOp.add (Qn 27) (Qo (Qp (Qq (Qr Qu 1))))),Qa (Qv 9) (Qd (Qn 28))]
def Wi0:MC:=.r0 Ygk
def Wi1:MC:=.seq (.seq Wio (.cond (Qn 26) .skip (MC.exit 0))) (.seq (.blk 1 (.seq Wip Wiz)) Wi0)
def Ygl:List MO:=[Qa (Qv 56) (Qd (Qn 7)),Qa (Qv 2) (Qd (Qn 56)),Qa (Qv 3) (Qd (Qo (Qp (Qq (Qr Qu 0)))))]
def Wi2:MC:=.r0 Ygl
def Wi3:MC:=.seq Wim (.seq (.seq Win (.blk 0 (.loop Wi1))) (.seq Wi2 .ret))
def Wi4:MC:=.seq (.seq Wys (.cond (Qn 18) (.seq Wyt .ret) .skip)) (.seq Wyu (.seq Wil Wi3))
def Ygm:MC:=.seq Wyq (.seq Wyr Wi4)
attribute [go_sem] Yy0 Yy1 Yy2 Yy3 Yy4 Yf7 Yf8 Yf9 Yga Ygb Ygc Ygd Yge Ygf Ygg Ygh Ygi Ygj Ygk Ygl
theorem W5z:KK QP 15 f15 [1] Ygm [(RV.t 2),(RV.t 3)] 57:=by refine⟨func15,?_,?_,?_,?_⟩<;>kernel_rfl
theorem Wyv:Xaa QP 15=true:=by kernel_rfl
theorem Wyw (h:GI QP gp [(RV.t 2),(RV.t 3)] res 57 Ygm args):Xak QP gp 15 args res:=W5z.i Wyv h
def Yy5:List MO:=[Qa (Qv 1) (MOp.ibox (Qn 0)),Qa (Qv 2) (Qd (Qo (Qp (Qq D.nilP))))]
def Wyx:MC:=.r0 Yy5
def Yy6:List MO:=[Qa (Qv 3) (Qf 2 true (Qn 1)),Qa (Qv 4) (Qg 1 (Qn 1)),Qa (Qv 5) (Qf 1 false (Qn 4)),Qa (Qv 6) (Qk Qt (Qn 5)),Qa (Qv 7) (MOp.mkS 1 8 [(Qr Qu 0)] (Qn 6)),Qa (Qv 8) (MOp.build [(Qr Qu 0),(D.sl []),(D.sl [])] [(0,(2,(Qn 3))),(2,(1,(Qn 7)))]),Qa (Qv 9) (MOp.box (Qn 8)),Qa (Qv 2) (Qd (Qn 9))]
def Wyy:MC:=.reg true Yy6
def Yy7:MC:=.seq Wyx (.seq Wyy .ret)
attribute [go_sem] Yy5 Yy6
theorem W50:KK QP 37 f37 [1] Yy7 [(RV.t 2)] 10:=by refine⟨func37,?_,?_,?_,?_⟩<;>kernel_rfl
theorem Wyz:Xaa QP 37=true:=by kernel_rfl
theorem Wi5 (h:GT QP gp [(RV.t 2)] pre R 10 Yy7 args):Tri QP gp 37 args pre R:=W50.t h
def Yy8:List MO:=[Qa (Qv 2) (Qd (Qo (Qp A.nil)))]
def Wy0:MC:=.r0 Yy8
def Yy9:List MO:=[Qa (Qv 6) (Qd (Qn 0)),Qa (Qv 7) (MOp.mkMv (Go.Fn.func 71) (Qn 6)),Qa (Qv 3) (Qd (Qn 7))]
def Wy1:MC:=.r0 Yy9
def Yza:List MO:=[Qa (Qv 8) (Qd (Qn 3)),Qa (Qv 9) (MOp.callv (Qn 8) []),Qa (Qv 4) (Qd (Qo (Qp (Qq (Qr Qu 0))))),Qa (Qv 5) (Qd (Qn 9))]
def Wy2:MC:=.r0 Yza
def Yzb:List MO:=[Qa (Qv 10) (Qd (Qn 5)),Qa (Qv 11) (Qd (Qn 4)),Qa (Qv 12) (Qe Qt Go.BinOp.gtr (Qn 10) (Qn 11))]
def Wy3:MC:=.r0 Yzb
def Yzc:List MO:=[Qa (Qv 13) (Qd (Qn 5)),Qa (Qv 14) (Qd (Qn 3)),Qa (Qv 15) (MOp.callv (Qn 14) []),Qa (Qv 4) (Qd (Qn 13)),Qa (Qv 5) (Qd (Qn 15))]
def Wy4:MC:=.r0 Yzc
def Ygn:List MO:=[Qa (Qv 16) (Qd (Qn 0)),Qa (Qv 17) (MOp.nck (Qn 16)),Qa (Qv 18) (Qg 2 (Qn 17)),Qa (Qv 19) (Qf 1 false (Qn 18)),Qa (Qv 2) (Qd (Qn 19))]
def Wi6:MC:=.r0 Ygn
def Wi7:MC:=.seq (.seq Wy2 (.blk 0 (.loop (.seq (.seq Wy3 (.cond (Qn 12) .skip (MC.exit 0))) (.blk 1 Wy4))))) (.seq Wi6 .ret)
def Ygo:MC:=.seq Wy0 (.seq Wy1 Wi7)
attribute [go_sem] Yy8 Yy9 Yza Yzb Yzc Ygn
theorem W51:KK QP 38 f38 [] Ygo [(RV.t 2)] 20:=by refine⟨func38,?_,?_,?_,?_⟩<;>kernel_rfl
theorem Wy5:Xaa QP 38=true:=by kernel_rfl
theorem Wi8 (h:GT QP gp [(RV.t 2)] pre R 20 Ygo args):Tri QP gp 38 args pre R:=W51.t h
def Yzd:List MO:=[Qa (Qv 1) (MOp.ibox (Qn 0)),Qa (Qv 2) (Qd (Qo (Qp A.nil)))]
def Wy6:MC:=.r0 Yzd
def Yze:List MO:=[Qa (Qv 15) (Qg 1 (Qn 1)),Qa (Qv 16) (Qf 1 false (Qn 15)),Qa (Qv 17) (Qk Qt (Qn 16)),Qa (Qv 3) (Qd (Qn 17))]
def Wy7:MC:=.r0 Yze
def Yzf:List MO:=[Qa (Qv 4) (Qd (Qo (Qp A.nil)))]
def Wy8:MC:=.r0 Yzf
def Yzg:List MO:=[Qa (Qv 5) (Qd (Qo (Qp A.nil)))]
def Wy9:MC:=.r0 Yzg
def Yzh:List MO:=[Qa (Qv 6) (Qd (Qo (Qp (Qq (Qr Qu 0)))))]
def Wza:MC:=.r0 Yzh
def Yzi:List MO:=[Qa (Qv 18) (Qd (Qn 6)),Qa (Qv 19) (Qd (Qn 3)),Qa (Qv 20) (Qe Qt Go.BinOp.lss (Qn 18) (Qn 19))]
def Wzb:MC:=.r0 Yzi
def Ygp:List MO:=[Qa (Qv 24) (Qf 2 true (Qn 1)),Qa (Qv 25) (Qd (Qn 6)),Qa (Qv 26) (Qh 47 [(Qn 24),(Qn 25)]),Qa (Qv 23) (Qd (Qn 26)),Qa (Qv 27) (Qi (Qn 23) 0),Qa (Qv 28) (Qi (Qn 23) 1),Qa (Qv 7) (Qd (Qn 27)),Qa (Qv 8) (Qd (Qn 28))]
def Wi9:MC:=.r0 Ygp
def Ygq:List MO:=[Qa (Qv 29) (Qd (Qn 4)),Qa (Qv 30) (Qd (Qn 7)),Qa (Qv 31) (MOp.bslice 1 [(D.sl [])] 1 [(0,(Qn 30))]),Qa (Qv 32) (MOp.app 27 1 24 (Qn 29) (Qn 31)),Qa (Qv 4) (Qd (Qn 32))]
def Wja:MC:=.r0 Ygq
def Ygr:List MO:=[Qa (Qv 9) (Qd (Qo (Qp A.nil)))]
def Wjb:MC:=.r0 Ygr
def Ygs:List MO:=[Qa (Qv 10) (Qd (Qo (Qp (Qq (Qr Qu 0)))))]
def Wjc:MC:=.r0 Ygs
def Ygt:List MO:=[Qa (Qv 33) (Qd (Qn 10)),Qa (Qv 34) (Qd (Qn 3)),Qa (Qv 35) (Qe Qt Go.BinOp.lss (Qn 33) (Qn 34))]
def Wjd:MC:=.r0 Ygt
def Ygu:List MO:=[Qa (Qv 38) (Qd (Qn 9)),Qa (Qv 39) (Qf 2 true (Qn 1)),Qa (Qv 40) (Qd (Qn 6)),Qa (Qv 41) (Qf 2 true (Qn 1)),Qa (Qv 42) (Qd (Qn 10)),Qa (Qv 43) (Qh 22 [(Qn 39),(Qn 40),(Qn 41),(Qn 42)]),Qa (Qv 44) (MOp.bslice 1 [(Qs false)] 1 [(0,(Qn 43))]),Qa (Qv 45) (MOp.app 4 1 1 (Qn 38) (Qn 44)),Qa (Qv 9) (Qd (Qn 45))]
def Wje:MC:=.r0 Ygu
def Ygv:List MO:=[Qa (Qv 36) (Qd (Qn 10)),Qa (Qv 37) (Qe Qt Go.BinOp.add (Qn 36) (Qo (Qp (Qq (Qr Qu 1))))),Qa (Qv 10) (Qd (Qn 37))]
def Wjf:MC:=.r0 Ygv
def Wjg:MC:=.seq Wjc (.blk 2 (.loop (.seq (.seq Wjd (.cond (Qn 35) .skip (MC.exit 2))) (.seq (.blk 3 Wje) Wjf))))
def Ygw:List MO:=[Qa (Qv 46) (Qd (Qn 5)),Qa (Qv 47) (Qd (Qn 9)),Qa (Qv 48) (MOp.bslice 1 [(D.sl [])] 1 [(0,(Qn 47))]),Qa (Qv 49) (MOp.app 62 1 24 (Qn 46) (Qn 48)),Qa (Qv 5) (Qd (Qn 49))]
def Wjh:MC:=.r0 Ygw
def Wji:MC:=.seq Wja (.seq Wjb (.seq Wjg Wjh))
def Ygx:List MO:=[Qa (Qv 21) (Qd (Qn 6)),Qa (Qv 22) (Qe Qt Go.BinOp.add (Qn 21) (Qo (Qp (Qq (Qr Qu 1))))),Qa (Qv 6) (Qd (Qn 22))]
def Wjj:MC:=.r0 Ygx
def Wjk:MC:=.seq (.seq Wzb (.cond (Qn 20) .skip (MC.exit 0))) (.seq (.blk 1 (.seq Wi9 Wji)) Wjj)
def Ygy:List MO:=[Qa (Qv 11) (Qd (Qo (Qp (Qq (Qs true)))))]
def Wjl:MC:=.r0 Ygy
def Ygz:List MO:=[Qa (Qv 50) (Qd (Qn 11))]
def Wjm:MC:=.r0 Ygz
def Yg0:List MO:=[Qa (Qv 11) (Qd (Qo (Qp (Qq (Qs false)))))]
def Wjn:MC:=.r0 Yg0
def Yg1:List MO:=[Qa (Qv 12) (Qd (Qo (Qp (Qq (Qr Qu 0)))))]
def Wjo:MC:=.r0 Yg1
def Yg2:List MO:=[Qa (Qv 51) (Qd (Qn 12)),Qa (Qv 52) (Qd (Qn 3)),Qa (Qv 53) (Qe Qt Go.BinOp.lss (Qn 51) (Qn 52))]
def Wjp:MC:=.r0 Yg2
def Yg3:List MO:=[Qa (Qv 13) (Qd (Qo (Qp (Qq (Qr Qu 0)))))]
def Wjq:MC:=.r0 Yg3
def Yg4:List MO:=[Qa (Qv 56) (Qd (Qn 13)),Qa (Qv 57) (Qd (Qn 3)),Qa (Qv 58) (Qe Qt Go.BinOp.lss (Qn 56) (Qn 57))]
def Wjr:MC:=.r0 Yg4
def Yg5:List MO:=[Qa (Qv 14) (Qd (Qo (Qp (Qq (Qr Qu 0)))))]
def Wjs:MC:=.r0 Yg5
def Yg6:List MO:=[Qa (Qv 61) (Qd (Qn 14)),Qa (Qv 62) (Qd (Qn 4)),Qa (Qv 63) (Qd (Qn 12)),Qa (Qv 64) (Qj 1 (Qn 62) (Qn 63)),Qa (Qv 65) (Qf 1 false (Qn 64)),Qa (Qv 66) (Qk Qt (Qn 65)),Qa (Qv 67) (Qe Qt Go.BinOp.lss (Qn 61) (Qn 66)),Qa (Qv 68) (Qd (Qn 67)),Qb 68 true (Qv 69),Qa (Qv 69) (Qd (Qn 5)),Qb 68 true (Qv 70),Qa (Qv 70) (Qd (Qn 12)),Qb 68 true (Qv 71),Qa (Qv 71) (Qj 1 (Qn 69) (Qn 70)),Qb 68 true (Qv 72),Qa (Qv 72) (Qf 1 false (Qn 71)),Qb 68 true (Qv 73),Qa (Qv 73) (Qd (Qn 13)),Qb 68 true (Qv 74),Qa (Qv 74) (Qj 1 (Qn 72) (Qn 73)),Qb 68 true (Qv 75),Qa (Qv 75) (Qf 1 false (Qn 74)),Qa (Qv 76) (Qm (Qn 68) (Qn 75) (Qo (Qp (Qq (Qs false)))))]
def Wjt:MC:=.r0 Yg6
def Yg7:List MO:=[Qa (Qv 79) (Qd (Qn 5)),Qa (Qv 80) (Qd (Qn 4)),Qa (Qv 81) (Qd (Qn 12)),Qa (Qv 82) (Qj 1 (Qn 80) (Qn 81)),Qa (Qv 83) (Qf 1 false (Qn 82)),Qa (Qv 84) (Qd (Qn 14)),Qa (Qv 85) (Qj 1 (Qn 83) (Qn 84)),Qa (Qv 86) (Qf 1 false (Qn 85)),Qa (Qv 87) (Qj 1 (Qn 79) (Qn 86)),Qa (Qv 88) (Qf 1 false (Qn 87)),Qa (Qv 89) (Qd (Qn 4)),Qa (Qv 90) (Qd (Qn 13)),Qa (Qv 91) (Qj 1 (Qn 89) (Qn 90)),Qa (Qv 92) (Qf 1 false (Qn 91)),Qa (Qv 93) (Qd (Qn 14)),Qa (Qv 94) (Qj 1 (Qn 92) (Qn 93)),Qa (Qv 95) (Qf 1 false (Qn 94)),Qa (Qv 96) (Qj 1 (Qn 88) (Qn 95)),Qa (Qv 97) (Qf 1 false (Qn 96)),Qa (Qv 98) (MOp.not (Qn 97))]
def Wju:MC:=.reg true Yg7
def Yg8:List MO:=[Qa (Qv 99) (Qd (Qn 5)),Qa (Qv 100) (Qd (Qn 12)),Qa (Qv 101) (Qj 1 (Qn 99) (Qn 100)),Qa (Qv 102) (Qf 1 false (Qn 101)),Qa (Qv 103) (Qd (Qn 13)),Qa (Qv 104) (Qj 1 (Qn 102) (Qn 103)),Qa none (Ql 1 (Qn 104) (Qo (Qp (Qq (Qs false)))))]
def Wjv:MC:=.r0 Yg8
def Yg9:List MO:=[Qa (Qv 11) (Qd (Qo (Qp (Qq (Qs true)))))]
def Wjw:MC:=.r0 Yg9
def Yha:List MO:=[Qa (Qv 77) (Qd (Qn 14)),Qa (Qv 78) (Qe Qt Go.BinOp.add (Qn 77) (Qo (Qp (Qq (Qr Qu 1))))),Qa (Qv 14) (Qd (Qn 78))]
def Wjx:MC:=.r0 Yha
def Wjy:MC:=.seq (.blk 11 (.seq Wju (.cond (Qn 98) (.seq Wjv Wjw) .skip))) Wjx
def Yhb:List MO:=[Qa (Qv 59) (Qd (Qn 13)),Qa (Qv 60) (Qe Qt Go.BinOp.add (Qn 59) (Qo (Qp (Qq (Qr Qu 1))))),Qa (Qv 13) (Qd (Qn 60))]
def Wjz:MC:=.r0 Yhb
def Wj0:MC:=.seq (.blk 9 (.seq Wjs (.blk 10 (.loop (.seq (.seq Wjt (.cond (Qn 76) .skip (MC.exit 10))) Wjy))))) Wjz
def Yhc:List MO:=[Qa (Qv 54) (Qd (Qn 12)),Qa (Qv 55) (Qe Qt Go.BinOp.add (Qn 54) (Qo (Qp (Qq (Qr Qu 1))))),Qa (Qv 12) (Qd (Qn 55))]
def Wj1:MC:=.r0 Yhc
def Wj2:MC:=.seq (.blk 7 (.seq Wjq (.blk 8 (.loop (.seq (.seq Wjr (.cond (Qn 58) .skip (MC.exit 8))) Wj0))))) Wj1
def Wj3:MC:=.seq Wjn (.seq Wjo (.blk 6 (.loop (.seq (.seq Wjp (.cond (Qn 53) .skip (MC.exit 6))) Wj2))))
def Yhd:List MO:=[Qa (Qv 105) (Qd (Qn 5)),Qa (Qv 2) (Qd (Qn 105))]
def Wj4:MC:=.r0 Yhd
def Yre:MC:=.seq Wjl (.seq (.blk 4 (.loop (.seq (.seq Wjm (.cond (Qn 50) .skip (MC.exit 4))) (.blk 5 Wj3)))) (.seq Wj4 .ret))
def Yrf:MC:=.seq Wy9 (.seq (.seq Wza (.blk 0 (.loop Wjk))) Yre)
def Xzo:MC:=.seq Wy6 (.seq Wy7 (.seq Wy8 Yrf))
attribute [go_sem] Yzd Yze Yzf Yzg Yzh Yzi Ygp Ygq Ygr Ygs Ygt Ygu Ygv Ygw Ygx Ygy Ygz Yg0 Yg1 Yg2 Yg3 Yg4 Yg5 Yg6 Yg7 Yg8 Yg9 Yha Yhb Yhc Yhd
theorem W52:KK QP 40 f40 [1] Xzo [(RV.t 2)] 106:=by refine⟨func40,?_,?_,?_,?_⟩<;>kernel_rfl
theorem Wzc:Xaa QP 40=true:=by kernel_rfl
theorem Wzd (h:GI QP gp [(RV.t 2)] res 106 Xzo args):Xak QP gp 40 args res:=W52.i Wzc h
def Yzj:List MO:=[Qa (Qv 4) (MOp.alloc [(Qr Qu 0),(Qr Qu 0),(Qr Qu 0),(D.str (ByteArray.mk #[])),(D.str (ByteArray.mk #[])),(D.str (ByteArray.mk #[]))])]
def Wze:MC:=.r0 Yzj
def Yzk:List MO:=[Qa (Qv 10) (Qd (Qn 0)),Qa (Qv 11) (MOp.nck (Qn 10)),Qa (Qv 12) (Qg 0 (Qn 11)),Qa (Qv 13) (Qf 2 true (Qn 12)),Qa (Qv 14) (Qd (Qn 1)),Qa (Qv 15) (Qh 21 [(Qn 13),(Qn 14)]),Qa (Qv 9) (Qd (Qn 15)),Qa (Qv 16) (Qi (Qn 9) 0),Qa (Qv 17) (Qi (Qn 9) 1),Qa (Qv 5) (Qd (Qn 16)),Qa (Qv 6) (Qd (Qn 17))]
def Wzf:MC:=.r0 Yzk
def Yzl:List MO:=[Qa (Qv 18) (Qd (Qn 5)),Qa (Qv 19) (Qk Qt (Qn 18)),Qa (Qv 20) (Qd (Qo (Qp (Qq (Qr Qu 0)))))]
def Wzg:MC:=.r0 Yzl
def Yzm:List MO:=[Qa (Qv 21) (Qe Qt Go.BinOp.lss (Qn 20) (Qn 19))]
def Wzh:MC:=.r0 Yzm
def Yzn:List MO:=[Qa (Qv 22) (Qd (Qn 20)),Qa (Qv 23) (Qj 1 (Qn 18) (Qn 20)),Qa (Qv 24) (Qf 1 false (Qn 23)),Qa (Qv 7) (Qd (Qn 22)),Qa (Qv 8) (Qd (Qn 24))]
def Wzi:MC:=.r0 Yzn
def Yzo:List MO:=[Qa (Qv 25) (Qd (Qn 5)),Qa (Qv 26) (Qd (Qn 7)),Qa (Qv 27) (Qd (Qn 0)),Qa (Qv 28) (MOp.nck (Qn 27)),Qa (Qv 29) (Qg 2 (Qn 28)),Qa (Qv 30) (Qf 1 false (Qn 29)),Qa (Qv 31) (Qd (Qn 8)),Qa (Qv 32) (Qj 1 (Qn 30) (Qn 31)),Qa (Qv 33) (Qf 1 false (Qn 32)),Qa (Qv 34) (Qj 1 (Qn 25) (Qn 26)),Qa none (Ql 1 (Qn 34) (Qn 33))]
def Wzj:MC:=.r0 Yzo
def Yhe:List MO:=[Qa (Qv 35) (Qe Qt Go.BinOp.add (Qn 20) (Qo (Qp (Qq (Qr Qu 1))))),Qa (Qv 20) (Qd (Qn 35))]
def Wj5:MC:=.r0 Yhe
def Wj6:MC:=.seq Wzh (.seq (.cond (Qn 21) .skip (MC.exit 0)) (.seq (.blk 1 (.seq Wzi Wzj)) Wj5))
def Yhf:List MO:=[Qa (Qv 36) (Qd (Qn 0)),Qa (Qv 37) (MOp.nck (Qn 36)),Qa (Qv 38) (Qg 0 (Qn 37)),Qa (Qv 39) (Qg 1 (Qn 38)),Qa (Qv 40) (Qf 1 false (Qn 39)),Qa (Qv 41) (Qd (Qn 1)),Qa (Qv 42) (Qj 6 (Qn 40) (Qn 41)),Qa (Qv 43) (Qg 0 (Qn 42)),Qa (Qv 44) (Qf 1 false (Qn 43)),Qa (Qv 45) (Qd (Qn 0)),Qa (Qv 46) (MOp.nck (Qn 45)),Qa (Qv 47) (Qg 0 (Qn 46)),Qa (Qv 48) (Qg 1 (Qn 47)),Qa (Qv 49) (Qf 1 false (Qn 48)),Qa (Qv 50) (Qd (Qn 1)),Qa (Qv 51) (Qj 6 (Qn 49) (Qn 50)),Qa (Qv 52) (Qg 1 (Qn 51)),Qa (Qv 53) (Qf 3 true (Qn 52)),Qa (Qv 54) (Qd (Qn 0)),Qa (Qv 55) (Qd (Qn 1)),Qa (Qv 56) (Qh 74 [(Qn 54),(Qn 55)]),Qa (Qv 57) (Qd (Qn 5)),Qa (Qv 58) (Qh 75 [(Qn 57)]),Qa (Qv 59) (MOp.build [(Qr Qu 0),(Qr Qu 0),(Qr Qu 0),(D.str (ByteArray.mk #[])),(D.str (ByteArray.mk #[])),(D.str (ByteArray.mk #[]))] [(0,(1,(Qn 44))),(1,(3,(Qn 53))),(4,(1,(Qn 56))),(5,(1,(Qn 58)))]),Qa none (Ql 6 (Qn 4) (Qn 59))]
def Wj7:MC:=.reg true Yhf
def Wj8:MC:=.seq Wzf (.seq (.seq Wzg (.blk 0 (.loop Wj6))) (.seq Wj7 .ret))
def Yhg:MC:=.seq Wze Wj8
attribute [go_sem] Yzj Yzk Yzl Yzm Yzn Yzo Yhe Yhf
theorem W53:KK QP 45 f45 [] Yhg [(RV.cell 4 6 true)] 60:=by refine⟨func45,?_,?_,?_,?_⟩<;>kernel_rfl
theorem Wzk:Xaa QP 45=true:=by kernel_rfl
theorem Wzl (h:GI QP gp [(RV.cell 4 6 true)] res 60 Yhg args):Xak QP gp 45 args res:=W53.i Wzk h
def Yzp:List MO:=[Qa (Qv 2) (Qd (Qo (Qp (Qq (Qr Qu 0)))))]
def Wzm:MC:=.r0 Yzp
def Yzq:List MO:=[Qa (Qv 9) MOp.mkM,Qa (Qv 3) (MOp.alloc [(D.raw (Go.Value.map none))]),Qa none (Ql 1 (Qn 3) (Qn 9))]
def Wzn:MC:=.r0 Yzq
def Yzr:List MO:=[Qa (Qv 10) (Qd (Qn 0)),Qa (Qv 11) (MOp.nck (Qn 10)),Qa (Qv 12) (Qg 2 (Qn 11)),Qa (Qv 13) (Qf 1 false (Qn 12)),Qa (Qv 14) (Qk Qt (Qn 13)),Qa (Qv 15) (MOp.mkS 1 8 [(Qr Qu 0)] (Qn 14)),Qa (Qv 4) (MOp.alloc [(D.sl [])]),Qa none (Ql 1 (Qn 4) (Qn 15))]
def Wzo:MC:=.r0 Yzr
def Yzs:List MO:=[Qa (Qv 16) (Qd (Qn 0)),Qa (Qv 17) (Qh 97 [(Qn 16)])]
def Wzp:MC:=.r0 Yzs
def Yzt:List MO:=[Qa (Qv 5) (Qd (Qn 18))]
def Wzq:MC:=.r0 Yzt
def Yzu:List MO:=[Qa (Qv 6) (MOp.alloc [(Qr Qu 0),(Qr Qu 0),(Qr Qu 0),(D.str (ByteArray.mk #[])),(D.str (ByteArray.mk #[])),(D.str (ByteArray.mk #[]))]),Qa none (Ql 6 (Qn 6) (Qn 19))]
def Wzr:MC:=.r0 Yzu
def Yzv:List MO:=[Qa (Qv 21) (Qf 1 false (Qn 3)),Qa (Qv 22) (Qf 6 true (Qn 6)),Qa (Qv 23) (MOp.lkp true (Qp (Qq (Qr Qu 0))) true [Qt,Qt,Qt,Leaf.s,Leaf.s,Leaf.s] (Qn 21) (Qn 22)),Qa (Qv 20) (Qd (Qn 23)),Qa (Qv 24) (Qi (Qn 20) 0),Qa (Qv 25) (Qi (Qn 20) 1),Qa (Qv 7) (Qd (Qn 24)),Qa (Qv 8) (Qd (Qn 25))]
def Wzs:MC:=.r0 Yzv
def Yzw:List MO:=[Qa (Qv 26) (Qd (Qn 8)),Qa (Qv 27) (MOp.not (Qn 26))]
def Wzt:MC:=.r0 Yzw
def Yzx:List MO:=[Qa (Qv 28) (Qf 1 false (Qn 3)),Qa (Qv 29) (Qf 6 true (Qn 6)),Qa (Qv 30) (Qf 1 false (Qn 3)),Qa (Qv 31) (Qk Leaf.b (Qn 30)),Qa none (MOp.mupd true [Qt,Qt,Qt,Leaf.s,Leaf.s,Leaf.s] (Qn 28) (Qn 29) (Qn 31))]
def Wzu:MC:=.r0 Yzx
def Yhh:List MO:=[Qa (Qv 32) (Qf 1 false (Qn 4)),Qa (Qv 33) (Qd (Qn 5)),Qa (Qv 34) (Qf 1 false (Qn 3)),Qa (Qv 35) (Qf 6 true (Qn 6)),Qa (Qv 36) (MOp.lkp false (Qp (Qq (Qr Qu 0))) true [Qt,Qt,Qt,Leaf.s,Leaf.s,Leaf.s] (Qn 34) (Qn 35)),Qa (Qv 37) (Qj 1 (Qn 32) (Qn 33)),Qa none (Ql 1 (Qn 37) (Qn 36))]
def Wj9:MC:=.reg true Yhh
def Wka:MC:=.seq (.seq Wzs (.seq Wzt (.cond (Qn 27) Wzu .skip))) Wj9
def Wkb:MC:=.rf (Qn 17) [18,19] (.seq Wzq Wzr) (.blk 1 Wka)
def Yhi:List MO:=[Qa (Qv 38) (Qd (Qn 0)),Qa (Qv 39) (MOp.nck (Qn 38)),Qa (Qv 40) (Qg 2 (Qn 39)),Qa (Qv 41) (Qf 1 false (Qn 40)),Qa (Qv 42) (Qf 1 false (Qn 4)),Qa (Qv 43) (MOp.cpy 1 (Qn 41) (Qn 42))]
def Wkc:MC:=.reg true Yhi
def Yhj:List MO:=[Qa (Qv 44) (Qf 1 false (Qn 3)),Qa (Qv 45) (Qk Leaf.b (Qn 44)),Qa (Qv 2) (Qd (Qn 45))]
def Wkd:MC:=.r0 Yhj
def Wke:MC:=.seq (.seq Wzp (.blk 0 Wkb)) (.seq Wkc (.seq Wkd .ret))
def Yhk:MC:=.seq Wzm (.seq Wzn (.seq Wzo Wke))
attribute [go_sem] Yzp Yzq Yzr Yzs Yzt Yzu Yzv Yzw Yzx Yhh Yhi Yhj
theorem W54:KK QP 71 f71 [] Yhk [(RV.t 2)] 46:=by refine⟨func71,?_,?_,?_,?_⟩<;>kernel_rfl
theorem Yzy:Xaa QP 71=true:=by kernel_rfl
theorem Wkf (h:GT QP gp [(RV.t 2)] pre R 46 Yhk args):Tri QP gp 71 args pre R:=W54.t h
def Yzz:List MO:=[Qa (Qv 4) (Qd (Qo (Qp (Qq (D.str (ByteArray.mk #[]))))))]
def Wzv:MC:=.r0 Yzz
def Yz0:List MO:=[Qa (Qv 13) (Qd (Qn 0)),Qa (Qv 14) (MOp.nck (Qn 13)),Qa (Qv 15) (Qg 0 (Qn 14)),Qa (Qv 16) (Qf 2 true (Qn 15)),Qa (Qv 17) (Qd (Qn 1)),Qa (Qv 18) (Qh 64 [(Qn 16),(Qn 17)]),Qa (Qv 12) (Qd (Qn 18)),Qa (Qv 19) (Qi (Qn 12) 0),Qa (Qv 20) (Qi (Qn 12) 1),Qa (Qv 5) (Qd (Qn 19)),Qa (Qv 6) (Qd (Qn 20))]
def Wzw:MC:=.r0 Yz0
def Yz1:List MO:=[Qa (Qv 7) (MOp.bldN 169 5)]
def Wzx:MC:=.r0 Yz1
def Yz2:List MO:=[Qa (Qv 21) (Qd (Qn 5)),Qa (Qv 22) (Qk Qt (Qn 21)),Qa (Qv 23) (Qd (Qo (Qp (Qq (Qr Qu 0)))))]
def Wzy:MC:=.r0 Yz2
def Yz3:List MO:=[Qa (Qv 24) (Qe Qt Go.BinOp.lss (Qn 23) (Qn 22))]
def Wzz:MC:=.r0 Yz3
def Yz4:List MO:=[Qa (Qv 25) (Qj 3 (Qn 21) (Qn 23)),Qa (Qv 26) (Qf 3 true (Qn 25)),Qa (Qv 9) (MOp.alloc [(Qr Qu 0),(Qr Qu 0),(D.str (ByteArray.mk #[]))]),Qa none (Ql 3 (Qn 9) (Qn 26))]
def Wz0:MC:=.r0 Yz4
def Yz5:List MO:=[Qa (Qv 28) (Qf 3 true (Qn 9)),Qa (Qv 29) (Qh 100 [(Qn 28)]),Qa (Qv 27) (Qd (Qn 29)),Qa (Qv 30) (Qi (Qn 27) 0),Qa (Qv 31) (Qi (Qn 27) 1),Qa (Qv 10) (Qd (Qn 30)),Qa (Qv 11) (Qd (Qn 31))]
def Wz1:MC:=.r0 Yz5
def Yhl:List MO:=[Qa (Qv 32) (Qd (Qn 10)),Qa (Qv 33) (Qe Leaf.s Go.BinOp.add (Qn 32) (Qo (Qp (Qq (D.str (ByteArray.mk #[44])))))),Qa (Qv 34) (Qh 101 [(Qn 7),(Qn 33)])]
def Wkg:MC:=.r0 Yhl
def Yhm:List MO:=[Qa (Qv 35) (Qe Qt Go.BinOp.add (Qn 23) (Qo (Qp (Qq (Qr Qu 1))))),Qa (Qv 23) (Qd (Qn 35))]
def Wkh:MC:=.r0 Yhm
def Wki:MC:=.seq (.blk 1 (.seq Wz0 (.seq Wz1 Wkg))) Wkh
def Yhn:List MO:=[Qa (Qv 36) (Qh 102 [(Qn 7)]),Qa (Qv 4) (Qd (Qn 36))]
def Wkj:MC:=.r0 Yhn
def Wkk:MC:=.seq (.seq Wzy (.blk 0 (.loop (.seq Wzz (.seq (.cond (Qn 24) .skip (MC.exit 0)) Wki))))) (.seq Wkj .ret)
def Yho:MC:=.seq Wzv (.seq Wzw (.seq Wzx Wkk))
attribute [go_sem] Yzz Yz0 Yz1 Yz2 Yz3 Yz4 Yz5 Yhl Yhm Yhn
theorem W55:KK QP 74 f74 [] Yho [(RV.t 4)] 37:=by refine⟨func74,?_,?_,?_,?_⟩<;>kernel_rfl
theorem Wz2:Xaa QP 74=true:=by kernel_rfl
theorem Wz3 (h:GI QP gp [(RV.t 4)] res 37 Yho args):Xak QP gp 74 args res:=W55.i Wz2 h
def Yz6:List MO:=[Qa (Qv 2) (Qd (Qo (Qp (Qq (D.str (ByteArray.mk #[]))))))]
def Wz4:MC:=.r0 Yz6
def Yz7:List MO:=[Qa (Qv 3) (MOp.bldN 169 5)]
def Wz5:MC:=.r0 Yz7
def Yz8:List MO:=[Qa (Qv 6) (Qd (Qn 0)),Qa (Qv 7) (Qk Qt (Qn 6)),Qa (Qv 8) (Qd (Qo (Qp (Qq (Qr Qu 0)))))]
def Wz6:MC:=.r0 Yz8
def Yz9:List MO:=[Qa (Qv 9) (Qe Qt Go.BinOp.lss (Qn 8) (Qn 7))]
def Wz7:MC:=.r0 Yz9
def Y0a:List MO:=[Qa (Qv 10) (Qj 1 (Qn 6) (Qn 8)),Qa (Qv 11) (Qf 1 false (Qn 10)),Qa (Qv 5) (Qd (Qn 11))]
def Wz8:MC:=.r0 Y0a
def Y0b:List MO:=[Qa (Qv 12) (Qd (Qn 5)),Qa (Qv 13) (Qh 103 [(Qn 12)]),Qa (Qv 14) (Qe Leaf.s Go.BinOp.add (Qn 13) (Qo (Qp (Qq (D.str (ByteArray.mk #[44])))))),Qa (Qv 15) (Qh 101 [(Qn 3),(Qn 14)])]
def Wz9:MC:=.r0 Y0b
def Yhp:List MO:=[Qa (Qv 16) (Qe Qt Go.BinOp.add (Qn 8) (Qo (Qp (Qq (Qr Qu 1))))),Qa (Qv 8) (Qd (Qn 16))]
def Wkl:MC:=.r0 Yhp
def Wkm:MC:=.seq Wz7 (.seq (.cond (Qn 9) .skip (MC.exit 0)) (.seq (.blk 1 (.seq Wz8 Wz9)) Wkl))
def Yhq:List MO:=[Qa (Qv 17) (Qh 102 [(Qn 3)]),Qa (Qv 2) (Qd (Qn 17))]
def Wkn:MC:=.r0 Yhq
def Wko:MC:=.seq Wz5 (.seq (.seq Wz6 (.blk 0 (.loop Wkm))) (.seq Wkn .ret))
def Yhr:MC:=.seq Wz4 Wko
attribute [go_sem] Yz6 Yz7 Yz8 Yz9 Y0a Y0b Yhp Yhq
theorem W56:KK QP 75 f75 [] Yhr [(RV.t 2)] 18:=by refine⟨func75,?_,?_,?_,?_⟩<;>kernel_rfl
theorem W0a:Xaa QP 75=true:=by kernel_rfl
theorem W0b (h:GI QP gp [(RV.t 2)] res 18 Yhr args):Xak QP gp 75 args res:=W56.i W0a h
def Y0c:List MO:=[Qa (Qv 1) (MOp.box (Qn 0)),Qa (Qv 2) (Qd (Qo (Qp (Qq D.nilF))))]
def W0c:MC:=.r0 Y0c
def Y0d:List MO:=[Qa (Qv 3) (MOp.mkF (Go.Fn.func 125) [(Qn 1)]),Qa (Qv 2) (Qd (Qn 3))]
def W0d:MC:=.r0 Y0d
def Y0e:MC:=.seq W0c (.seq W0d .ret)
attribute [go_sem] Y0c Y0d
theorem W57:KK QP 97 f97 [] Y0e [(RV.t 2)] 4:=by refine⟨func97,?_,?_,?_,?_⟩<;>kernel_rfl
theorem W0e:Xaa QP 97=true:=by kernel_rfl
theorem Wkp (h:GT QP gp [(RV.t 2)] pre R 4 Y0e args):Tri QP gp 97 args pre R:=W57.t h
def Yhs:List MO:=[Qa (Qv 4) (Qf 1 false (Qn 1)),Qa (Qv 5) (MOp.nck (Qn 4)),Qa (Qv 6) (Qg 0 (Qn 5)),Qa (Qv 7) (Qg 1 (Qn 6)),Qa (Qv 8) (Qf 1 false (Qn 7)),Qa (Qv 9) (Qk Qt (Qn 8)),Qa (Qv 10) (Qd (Qo (Qp (Qq (Qr Qu 0)))))]
def Wkq:MC:=.r0 Yhs
def Yht:List MO:=[Qa (Qv 11) (Qe Qt Go.BinOp.lss (Qn 10) (Qn 9))]
def Wkr:MC:=.r0 Yht
def Yhu:List MO:=[Qa (Qv 12) (Qd (Qn 10)),Qa (Qv 3) (Qd (Qn 12))]
def Wks:MC:=.r0 Yhu
def Yhv:List MO:=[Qa (Qv 13) (Qd (Qn 0)),Qa (Qv 14) (Qd (Qn 3)),Qa (Qv 15) (Qf 1 false (Qn 1)),Qa (Qv 16) (Qd (Qn 3)),Qa (Qv 17) (Qh 45 [(Qn 15),(Qn 16)]),Qa (Qv 18) (MOp.callv (Qn 13) [(Qn 14),(Qn 17)]),Qa (Qv 19) (MOp.not (Qn 18))]
def Wkt:MC:=.r0 Yhv
def Xzp:List MO:=[Qa (Qv 20) (Qe Qt Go.BinOp.add (Qn 10) (Qo (Qp (Qq (Qr Qu 1))))),Qa (Qv 10) (Qd (Qn 20))]
def Yrg:MC:=.r0 Xzp
def Yrh:MC:=.seq Wkr (.seq (.cond (Qn 11) .skip (MC.exit 0)) (.seq (.blk 1 (.seq Wks (.seq Wkt (.cond (Qn 19) (MC.exit 0) .skip)))) Yrg))
def Xzq:MC:=.scope (.seq .skip (.seq Wkq (.blk 0 (.loop Yrh))))
attribute [go_sem] Yhs Yht Yhu Yhv Xzp
theorem W0f:KK QP 125 f125 [] Xzq [] 21:=by refine⟨func125,?_,?_,?_,?_⟩<;>kernel_rfl
theorem Wku:Xaa QP 125=true:=by kernel_rfl
theorem Yri (h:GT QP gp [] pre R 21 Xzq args):Tri QP gp 125 args pre R:=W0f.t h
end Go.Fw.L07
