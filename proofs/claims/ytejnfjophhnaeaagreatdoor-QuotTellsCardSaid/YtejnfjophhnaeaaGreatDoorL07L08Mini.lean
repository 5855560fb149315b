/- Small codes. -/
import Derived.Test.YtejnfjophhnaeaaGreatDoorFd
import Derived.Test.YtejnfjophhnaeaaGreatDoorProg
set_option linter.all false
namespace Go.Fw.L07
open Go Go.Fw
open Go.Proofs.Tryz renaming prog->QP
open Go.Proofs.Tryz (f114 f115 f32 f33 f57 f59 f60 f61 f62 f63 f65 f90 f91 func114 func115 func32 func33 func57 func59 func60 func61 func62 func63 func65 func90 func91)
open Go.Fw.MO renaming op->Qa,chk->Qb,opx->Qc
open Go.Fw.MOp renaming mv->Qd,bin->Qe,load->Qf,fad->Qg,call->Qh,ext->Qi,iad->Qj,len->Qk,store->Ql,pick->Qm
open Go.Fw.Opd renaming t->Qn,c->Qo
open Go.Fw.V renaming one->Qp
open Go.Fw.A renaming d->Qq
open Go.Fw.D renaming int->Qr,bool->Qs
open Go.Fw.Leaf renaming i->Qt
open Go.IntKind renaming i64->Qu
open Option renaming some->Qv
variable {gp:Xal} {args:List V} {res:V} {pre:List Ch} {R:V->List Ch->Prop}
def Yw1:List MO:=[Qa (Qv 1) (MOp.ibox (Qn 0)),Qa (Qv 2) (Qd (Qo (Qp A.nil))),Qa (Qv 3) (Qd (Qo (Qp (Qq (Qr Qu 0)))))]
def Wv3:MC:=.r0 Yw1
def Yw2:List MO:=[Qa (Qv 7) (Qf 2 true (Qn 1)),Qa (Qv 8) (Qh 36 [(Qn 7)]),Qa (Qv 6) (Qd (Qn 8)),Qa (Qv 9) (Qi (Qn 6) 0),Qa (Qv 10) (Qi (Qn 6) 1),Qa (Qv 4) (Qd (Qn 9)),Qa (Qv 5) (Qd (Qn 10))]
def Wv4:MC:=.r0 Yw2
def Yw3:List MO:=[Qa (Qv 11) (Qd (Qn 5)),Qa (Qv 12) (Qe Qt Go.BinOp.neq (Qn 11) (Qo (Qp (Qq (Qr Qu 0)))))]
def Wv5:MC:=.r0 Yw3
def Yw4:List MO:=[Qa (Qv 13) (Qd (Qn 5)),Qa (Qv 2) (Qd (Qo (Qp A.nil))),Qa (Qv 3) (Qd (Qn 13))]
def Wv6:MC:=.r0 Yw4
def Xgc:List MO:=[Qa (Qv 14) (Qf 2 true (Qn 1)),Qa (Qv 15) (Qh 62 [(Qn 14)]),Qa (Qv 16) (Qh 63 [(Qn 15)]),Qa (Qv 2) (Qd (Qn 16)),Qa (Qv 3) (Qd (Qo (Qp (Qq (Qr Qu 0)))))]
def Wf4:MC:=.r0 Xgc
def Wf5:MC:=.seq (.seq Wv4 (.seq Wv5 (.cond (Qn 12) (.seq Wv6 .ret) .skip))) (.seq Wf4 .ret)
def Ydq:MC:=.seq Wv3 Wf5
attribute [go_sem] Yw1 Yw2 Yw3 Yw4
theorem W5k:KK QP 32 f32 [1] Ydq [(RV.t 2),(RV.t 3)] 17:=by refine⟨func32,?_,?_,?_,?_⟩<;>kernel_rfl
theorem Wv7:Xaa QP 32=true:=by kernel_rfl
theorem Wv8 (h:GI QP gp [(RV.t 2),(RV.t 3)] res 17 Ydq args):Xak QP gp 32 args res:=W5k.i Wv7 h
def Yw5:List MO:=[Qa (Qv 1) (MOp.ibox (Qn 0)),Qa (Qv 2) (MOp.alloc [(Qr Qu 0),(D.sl [])]),Qa (Qv 3) (Qd (Qo (Qp (Qq (Qr Qu 0)))))]
def Wv9:MC:=.r0 Yw5
def Yw6:List MO:=[Qa (Qv 14) (Qf 2 true (Qn 1)),Qa (Qv 15) (Qh 36 [(Qn 14)]),Qa (Qv 13) (Qd (Qn 15)),Qa (Qv 16) (Qi (Qn 13) 0),Qa (Qv 17) (Qi (Qn 13) 1),Qa (Qv 4) (Qd (Qn 16)),Qa (Qv 5) (Qd (Qn 17))]
def Wwa:MC:=.r0 Yw6
def Yw7:List MO:=[Qa (Qv 18) (Qd (Qn 5)),Qa (Qv 19) (Qe Qt Go.BinOp.neq (Qn 18) (Qo (Qp (Qq (Qr Qu 0)))))]
def Wwb:MC:=.r0 Yw7
def Yw8:List MO:=[Qa (Qv 20) (MOp.build [(Qr Qu 0),(D.sl [])] []),Qa (Qv 21) (Qd (Qn 5)),Qa none (Ql 2 (Qn 2) (Qn 20)),Qa (Qv 3) (Qd (Qn 21))]
def Wwc:MC:=.r0 Yw8
def Xdg:List MO:=[Qa (Qv 22) (Qf 2 true (Qn 1)),Qa (Qv 23) (Qh 62 [(Qn 22)]),Qa (Qv 6) (Qd (Qn 23))]
def Wf6:MC:=.r0 Xdg
def Ydr:List MO:=[Qa (Qv 7) (MOp.alloc [(Qr Qu 0),(D.sl [])])]
def Wf7:MC:=.r0 Ydr
def Yds:List MO:=[Qa (Qv 24) (Qd (Qn 6)),Qa (Qv 25) (Qh 63 [(Qn 24)]),Qa (Qv 26) (Qk Qt (Qn 25)),Qa (Qv 27) (Qd (Qo (Qp (Qq (Qr Qu 0)))))]
def Wf8:MC:=.r0 Yds
def Ydt:List MO:=[Qa (Qv 28) (Qe Qt Go.BinOp.lss (Qn 27) (Qn 26))]
def Wf9:MC:=.r0 Ydt
def Ydu:List MO:=[Qa (Qv 29) (Qj 1 (Qn 25) (Qn 27)),Qa (Qv 30) (Qf 1 false (Qn 29)),Qa (Qv 9) (Qd (Qn 30))]
def Wga:MC:=.r0 Ydu
def Ydv:List MO:=[Qa (Qv 31) (Qg 1 (Qn 1)),Qa (Qv 32) (Qf 1 false (Qn 31)),Qa (Qv 33) (Qd (Qn 9)),Qa (Qv 34) (Qj 6 (Qn 32) (Qn 33)),Qa (Qv 35) (Qg 0 (Qn 34)),Qa (Qv 36) (Qf 1 false (Qn 35)),Qa (Qv 37) (Qg 1 (Qn 1)),Qa (Qv 38) (Qf 1 false (Qn 37)),Qa (Qv 39) (Qd (Qn 9)),Qa (Qv 40) (Qj 6 (Qn 38) (Qn 39)),Qa (Qv 41) (Qg 1 (Qn 40)),Qa (Qv 42) (Qf 3 true (Qn 41)),Qa (Qv 43) (MOp.build [(Qr Qu 0),(Qr Qu 0),(Qr Qu 0),(D.str (ByteArray.mk #[])),(D.sl []),(D.sl [])] [(0,(1,(Qn 36))),(1,(3,(Qn 42)))]),Qa (Qv 10) (MOp.alloc [(Qr Qu 0),(Qr Qu 0),(Qr Qu 0),(D.str (ByteArray.mk #[])),(D.sl []),(D.sl [])]),Qa none (Ql 6 (Qn 10) (Qn 43))]
def Wgb:MC:=.reg true Ydv
def Ydw:List MO:=[Qa (Qv 45) (Qf 2 true (Qn 1)),Qa (Qv 46) (Qd (Qn 9)),Qa (Qv 47) (Qh 64 [(Qn 45),(Qn 46)]),Qa (Qv 44) (Qd (Qn 47)),Qa (Qv 48) (Qi (Qn 44) 0),Qa (Qv 49) (Qi (Qn 44) 1),Qa (Qv 50) (Qg 4 (Qn 10)),Qa none (Ql 1 (Qn 50) (Qn 48))]
def Wgc:MC:=.r0 Ydw
def Ydx:List MO:=[Qa (Qv 52) (Qf 2 true (Qn 1)),Qa (Qv 53) (Qd (Qn 9)),Qa (Qv 54) (Qh 21 [(Qn 52),(Qn 53)]),Qa (Qv 51) (Qd (Qn 54)),Qa (Qv 55) (Qi (Qn 51) 0),Qa (Qv 56) (Qi (Qn 51) 1),Qa (Qv 11) (Qd (Qn 55)),Qa (Qv 12) (Qd (Qn 56))]
def Wgd:MC:=.r0 Ydx
def Ydy:List MO:=[Qa (Qv 57) (Qd (Qn 6)),Qa (Qv 58) (Qd (Qn 11)),Qa (Qv 59) (Qh 65 [(Qn 57),(Qn 58)]),Qa (Qv 60) (Qg 5 (Qn 10)),Qa none (Ql 1 (Qn 60) (Qn 59))]
def Wge:MC:=.r0 Ydy
def Ydz:List MO:=[Qa (Qv 61) (Qg 1 (Qn 7)),Qa (Qv 62) (Qf 1 false (Qn 61)),Qa (Qv 63) (Qf 6 true (Qn 10)),Qa (Qv 64) (MOp.bslice 6 [(Qr Qu 0),(Qr Qu 0),(Qr Qu 0),(D.str (ByteArray.mk #[])),(D.sl []),(D.sl [])] 1 [(0,(Qn 63))]),Qa (Qv 65) (MOp.app 44 6 88 (Qn 62) (Qn 64)),Qa (Qv 66) (Qg 1 (Qn 7)),Qa none (Ql 1 (Qn 66) (Qn 65))]
def Wgf:MC:=.r0 Ydz
def Wgg:MC:=.seq Wgc (.seq Wgd (.seq Wge Wgf))
def Yd0:List MO:=[Qa (Qv 67) (Qe Qt Go.BinOp.add (Qn 27) (Qo (Qp (Qq (Qr Qu 1))))),Qa (Qv 27) (Qd (Qn 67))]
def Wgh:MC:=.r0 Yd0
def Wgi:MC:=.seq (.blk 1 (.seq Wga (.seq Wgb Wgg))) Wgh
def Yd1:List MO:=[Qa (Qv 68) (Qf 2 true (Qn 7)),Qa none (Ql 2 (Qn 2) (Qn 68)),Qa (Qv 3) (Qd (Qo (Qp (Qq (Qr Qu 0)))))]
def Wgj:MC:=.r0 Yd1
def Wgk:MC:=.seq (.seq Wf8 (.blk 0 (.loop (.seq Wf9 (.seq (.cond (Qn 28) .skip (MC.exit 0)) Wgi))))) (.seq Wgj .ret)
def Wgl:MC:=.seq (.seq Wwa (.seq Wwb (.cond (Qn 19) (.seq Wwc .ret) .skip))) (.seq Wf6 (.seq Wf7 Wgk))
def Yd2:MC:=.seq Wv9 Wgl
attribute [go_sem] Yw5 Yw6 Yw7 Yw8 Ydr Yds Ydt Ydu Ydv Ydw Ydx Ydy Ydz Yd0 Yd1
theorem W5l:KK QP 33 f33 [1] Yd2 [(RV.cell 2 2 true),(RV.t 3)] 69:=by refine⟨func33,?_,?_,?_,?_⟩<;>kernel_rfl
theorem Wwd:Xaa QP 33=true:=by kernel_rfl
theorem Wwe (h:GI QP gp [(RV.cell 2 2 true),(RV.t 3)] res 69 Yd2 args):Xak QP gp 33 args res:=W5l.i Wwd h
def Yw9:List MO:=[Qa (Qv 1) (MOp.ibox (Qn 0)),Qa (Qv 2) (MOp.alloc [(Qr Qu 0),(D.sl [])]),Qa (Qv 3) (Qd (Qo (Qp (Qq (Qr Qu 0)))))]
def Wwf:MC:=.r0 Yw9
def Yxa:List MO:=[Qa (Qv 14) (Qf 2 true (Qn 1)),Qa (Qv 15) (Qh 59 [(Qn 14)]),Qa (Qv 13) (Qd (Qn 15)),Qa (Qv 16) (Qi (Qn 13) 0),Qa (Qv 17) (Qi (Qn 13) 1),Qa (Qv 4) (Qd (Qn 16)),Qa (Qv 5) (Qd (Qn 17))]
def Wwg:MC:=.r0 Yxa
def Yxb:List MO:=[Qa (Qv 18) (Qd (Qn 5)),Qa (Qv 19) (Qe Qt Go.BinOp.neq (Qn 18) (Qo (Qp (Qq (Qr Qu 0)))))]
def Wwh:MC:=.r0 Yxb
def Yxc:List MO:=[Qa (Qv 20) (MOp.build [(Qr Qu 0),(D.sl [])] []),Qa (Qv 21) (Qd (Qn 5)),Qa none (Ql 2 (Qn 2) (Qn 20)),Qa (Qv 3) (Qd (Qn 21))]
def Wwi:MC:=.r0 Yxc
def Yxd:List MO:=[Qa (Qv 22) (MOp.build [(Qr Qu 0),(D.sl [])] []),Qa (Qv 6) (MOp.alloc [(Qr Qu 0),(D.sl [])]),Qa none (Ql 2 (Qn 6) (Qn 22))]
def Wwj:MC:=.r0 Yxd
def Yd3:List MO:=[Qa (Qv 7) (Qd (Qo (Qp (Qq (Qr Qu 0)))))]
def Wgm:MC:=.r0 Yd3
def Yd4:List MO:=[Qa (Qv 23) (Qd (Qn 7)),Qa (Qv 24) (Qd (Qn 4)),Qa (Qv 25) (Qk Qt (Qn 24)),Qa (Qv 26) (Qe Qt Go.BinOp.lss (Qn 23) (Qn 25))]
def Wgn:MC:=.r0 Yd4
def Yd5:List MO:=[Qa (Qv 29) (Qg 1 (Qn 1)),Qa (Qv 30) (Qf 1 false (Qn 29)),Qa (Qv 31) (Qd (Qn 4)),Qa (Qv 32) (Qd (Qn 7)),Qa (Qv 33) (Qj 1 (Qn 31) (Qn 32)),Qa (Qv 34) (Qf 1 false (Qn 33)),Qa (Qv 35) (Qj 6 (Qn 30) (Qn 34)),Qa (Qv 36) (Qf 6 true (Qn 35)),Qa (Qv 8) (MOp.alloc [(Qr Qu 0),(Qr Qu 0),(Qr Qu 0),(D.str (ByteArray.mk #[])),(D.sl []),(D.sl [])]),Qa none (Ql 6 (Qn 8) (Qn 36))]
def Wgo:MC:=.reg true Yd5
def Yd6:List MO:=[Qa (Qv 37) (Qg 0 (Qn 8)),Qa (Qv 38) (Qf 1 false (Qn 37)),Qa (Qv 39) (Qg 1 (Qn 8)),Qa (Qv 40) (Qf 3 true (Qn 39)),Qa (Qv 41) (MOp.build [(Qr Qu 0),(Qr Qu 0),(Qr Qu 0),(D.str (ByteArray.mk #[])),(D.sl []),(D.sl [])] [(0,(1,(Qn 38))),(1,(3,(Qn 40)))]),Qa (Qv 9) (MOp.alloc [(Qr Qu 0),(Qr Qu 0),(Qr Qu 0),(D.str (ByteArray.mk #[])),(D.sl []),(D.sl [])]),Qa none (Ql 6 (Qn 9) (Qn 41))]
def Wgp:MC:=.r0 Yd6
def Yd7:List MO:=[Qa (Qv 43) (Qf 2 true (Qn 1)),Qa (Qv 44) (Qd (Qn 4)),Qa (Qv 45) (Qd (Qn 7)),Qa (Qv 46) (Qj 1 (Qn 44) (Qn 45)),Qa (Qv 47) (Qf 1 false (Qn 46)),Qc (Qv 48) (Qh 51 [(Qn 43),(Qn 47)]),Qa (Qv 42) (Qd (Qn 48)),Qa (Qv 49) (Qi (Qn 42) 0),Qa (Qv 50) (Qi (Qn 42) 1),Qa (Qv 51) (Qg 4 (Qn 9)),Qa none (Ql 1 (Qn 51) (Qn 49))]
def Wgq:MC:=.reg true Yd7
def Yd8:List MO:=[Qa (Qv 53) (Qf 2 true (Qn 1)),Qa (Qv 54) (Qd (Qn 4)),Qa (Qv 55) (Qd (Qn 7)),Qa (Qv 56) (Qj 1 (Qn 54) (Qn 55)),Qa (Qv 57) (Qf 1 false (Qn 56)),Qc (Qv 58) (Qh 47 [(Qn 53),(Qn 57)]),Qa (Qv 52) (Qd (Qn 58)),Qa (Qv 59) (Qi (Qn 52) 0),Qa (Qv 60) (Qi (Qn 52) 1),Qa (Qv 10) (Qd (Qn 59)),Qa (Qv 11) (Qd (Qn 60))]
def Wgr:MC:=.reg true Yd8
def Yd9:List MO:=[Qa (Qv 12) (Qd (Qo (Qp (Qq (Qr Qu 0)))))]
def Wgs:MC:=.r0 Yd9
def Yea:List MO:=[Qa (Qv 61) (Qd (Qn 12)),Qa (Qv 62) (Qd (Qn 10)),Qa (Qv 63) (Qk Qt (Qn 62)),Qa (Qv 64) (Qe Qt Go.BinOp.lss (Qn 61) (Qn 63))]
def Wgt:MC:=.r0 Yea
def Yeb:List MO:=[Qa (Qv 67) (Qg 5 (Qn 9)),Qa (Qv 68) (Qf 1 false (Qn 67)),Qa (Qv 69) (Qd (Qn 4)),Qa (Qv 70) (Qd (Qn 10)),Qa (Qv 71) (Qd (Qn 12)),Qa (Qv 72) (Qj 1 (Qn 70) (Qn 71)),Qa (Qv 73) (Qf 1 false (Qn 72)),Qa (Qv 74) (Qh 60 [(Qn 69),(Qn 73)]),Qa (Qv 75) (MOp.bslice 1 [(Qr Qu 0)] 1 [(0,(Qn 74))]),Qa (Qv 76) (MOp.app 3 1 8 (Qn 68) (Qn 75)),Qa (Qv 77) (Qg 5 (Qn 9)),Qa none (Ql 1 (Qn 77) (Qn 76))]
def Wgu:MC:=.reg true Yeb
def Yec:List MO:=[Qa (Qv 65) (Qd (Qn 12)),Qa (Qv 66) (Qe Qt Go.BinOp.add (Qn 65) (Qo (Qp (Qq (Qr Qu 1))))),Qa (Qv 12) (Qd (Qn 66))]
def Wgv:MC:=.r0 Yec
def Wgw:MC:=.seq Wgs (.blk 2 (.loop (.seq (.seq Wgt (.cond (Qn 64) .skip (MC.exit 2))) (.seq (.blk 3 Wgu) Wgv))))
def Xdh:List MO:=[Qa (Qv 78) (Qg 1 (Qn 6)),Qa (Qv 79) (Qf 1 false (Qn 78)),Qa (Qv 80) (Qf 6 true (Qn 9)),Qa (Qv 81) (MOp.bslice 6 [(Qr Qu 0),(Qr Qu 0),(Qr Qu 0),(D.str (ByteArray.mk #[])),(D.sl []),(D.sl [])] 1 [(0,(Qn 80))]),Qa (Qv 82) (MOp.app 44 6 88 (Qn 79) (Qn 81)),Qa (Qv 83) (Qg 1 (Qn 6)),Qa none (Ql 1 (Qn 83) (Qn 82))]
def Wgx:MC:=.r0 Xdh
def Wgy:MC:=.seq Wgq (.seq Wgr (.seq Wgw Wgx))
def Yed:List MO:=[Qa (Qv 27) (Qd (Qn 7)),Qa (Qv 28) (Qe Qt Go.BinOp.add (Qn 27) (Qo (Qp (Qq (Qr Qu 1))))),Qa (Qv 7) (Qd (Qn 28))]
def Wgz:MC:=.r0 Yed
def Wg0:MC:=.seq (.blk 1 (.seq Wgo (.seq Wgp Wgy))) Wgz
def Yee:List MO:=[Qa (Qv 84) (Qf 2 true (Qn 6)),Qa none (Ql 2 (Qn 2) (Qn 84)),Qa (Qv 3) (Qd (Qo (Qp (Qq (Qr Qu 0)))))]
def Wg1:MC:=.r0 Yee
def Wg2:MC:=.seq (.seq Wgm (.blk 0 (.loop (.seq (.seq Wgn (.cond (Qn 26) .skip (MC.exit 0))) Wg0)))) (.seq Wg1 .ret)
def Wg3:MC:=.seq (.seq Wwh (.cond (Qn 19) (.seq Wwi .ret) .skip)) (.seq Wwj Wg2)
def Yef:MC:=.seq Wwf (.seq Wwg Wg3)
attribute [go_sem] Yw9 Yxa Yxb Yxc Yxd Yd3 Yd4 Yd5 Yd6 Yd7 Yd8 Yd9 Yea Yeb Yec Yed Yee
theorem W5m:KK QP 57 f57 [1] Yef [(RV.cell 2 2 true),(RV.t 3)] 85:=by refine⟨func57,?_,?_,?_,?_⟩<;>kernel_rfl
theorem Wwk:Xaa QP 57=true:=by kernel_rfl
theorem Wwl (h:GI QP gp [(RV.cell 2 2 true),(RV.t 3)] res 85 Yef args):Xak QP gp 57 args res:=W5m.i Wwk h
def Yxe:List MO:=[Qa (Qv 1) (MOp.ibox (Qn 0)),Qa (Qv 2) (Qd (Qo (Qp A.nil))),Qa (Qv 3) (Qd (Qo (Qp (Qq (Qr Qu 0)))))]
def Wwm:MC:=.r0 Yxe
def Yxf:List MO:=[Qa (Qv 7) (Qf 2 true (Qn 1)),Qa (Qv 8) (Qh 39 [(Qn 7)]),Qa (Qv 6) (Qd (Qn 8)),Qa (Qv 9) (Qi (Qn 6) 0),Qa (Qv 10) (Qi (Qn 6) 1),Qa (Qv 4) (Qd (Qn 9)),Qa (Qv 5) (Qd (Qn 10))]
def Wwn:MC:=.r0 Yxf
def Yxg:List MO:=[Qa (Qv 11) (Qd (Qn 5)),Qa (Qv 12) (Qe Qt Go.BinOp.neq (Qn 11) (Qo (Qp (Qq (Qr Qu 0)))))]
def Wwo:MC:=.r0 Yxg
def Yxh:List MO:=[Qa (Qv 13) (Qd (Qn 5)),Qa (Qv 2) (Qd (Qo (Qp A.nil))),Qa (Qv 3) (Qd (Qn 13))]
def Wwp:MC:=.r0 Yxh
def Xm0:List MO:=[Qa (Qv 14) (Qf 2 true (Qn 1)),Qa (Qv 15) (Qg 0 (Qn 1)),Qa (Qv 16) (Qf 1 false (Qn 15)),Qa (Qv 17) (Qh 90 [(Qn 14),(Qn 16),(Qo (Qp A.nil))]),Qa (Qv 2) (Qd (Qn 17)),Qa (Qv 3) (Qd (Qo (Qp (Qq (Qr Qu 0)))))]
def Wwq:MC:=.r0 Xm0
def Wg4:MC:=.seq Wwn (.seq (.seq Wwo (.cond (Qn 12) (.seq Wwp .ret) .skip)) (.seq Wwq .ret))
def Yeg:MC:=.seq Wwm Wg4
attribute [go_sem] Yxe Yxf Yxg Yxh
theorem W5n:KK QP 59 f59 [1] Yeg [(RV.t 2),(RV.t 3)] 18:=by refine⟨func59,?_,?_,?_,?_⟩<;>kernel_rfl
theorem Wwr:Xaa QP 59=true:=by kernel_rfl
theorem Wws (h:GI QP gp [(RV.t 2),(RV.t 3)] res 18 Yeg args):Xak QP gp 59 args res:=W5n.i Wwr h
def Yxi:List MO:=[Qa (Qv 4) (Qd (Qo (Qp (Qq (Qr Qu 0)))))]
def Wwt:MC:=.r0 Yxi
def Yxj:List MO:=[Qa (Qv 5) (Qd (Qo (Qp (Qq (Qr Qu 0)))))]
def Wwu:MC:=.r0 Yxj
def Yxk:List MO:=[Qa (Qv 6) (Qd (Qn 5)),Qa (Qv 7) (Qd (Qn 0)),Qa (Qv 8) (Qk Qt (Qn 7)),Qa (Qv 9) (Qe Qt Go.BinOp.lss (Qn 6) (Qn 8))]
def Wwv:MC:=.r0 Yxk
def Yxl:List MO:=[Qa (Qv 12) (Qd (Qn 0)),Qa (Qv 13) (Qd (Qn 5)),Qa (Qv 14) (Qj 1 (Qn 12) (Qn 13)),Qa (Qv 15) (Qf 1 false (Qn 14)),Qa (Qv 16) (Qd (Qn 1)),Qa (Qv 17) (Qe Qt Go.BinOp.eql (Qn 15) (Qn 16))]
def Www:MC:=.r0 Yxl
def Yxm:List MO:=[Qa (Qv 18) (Qd (Qn 5)),Qa (Qv 4) (Qd (Qn 18))]
def Wwx:MC:=.r0 Yxm
def Yeh:List MO:=[Qa (Qv 10) (Qd (Qn 5)),Qa (Qv 11) (Qe Qt Go.BinOp.add (Qn 10) (Qo (Qp (Qq (Qr Qu 1))))),Qa (Qv 5) (Qd (Qn 11))]
def Wg5:MC:=.r0 Yeh
def Wg6:MC:=.seq (.seq Wwv (.cond (Qn 9) .skip (MC.exit 0))) (.seq (.blk 1 (.seq Www (.cond (Qn 17) (.seq Wwx .ret) .skip))) Wg5)
def Yei:List MO:=[Qa (Qv 4) (Qd (Qo (Qp (Qq (Qr Qu (-1))))))]
def Wg7:MC:=.r0 Yei
def Yej:MC:=.seq Wwt (.seq (.seq Wwu (.blk 0 (.loop Wg6))) (.seq Wg7 .ret))
attribute [go_sem] Yxi Yxj Yxk Yxl Yxm Yeh Yei
theorem W5o:KK QP 60 f60 [] Yej [(RV.t 4)] 19:=by refine⟨func60,?_,?_,?_,?_⟩<;>kernel_rfl
theorem Wwy:Xaa QP 60=true:=by kernel_rfl
theorem Wwz (h:GI QP gp [(RV.t 4)] res 19 Yej args):Xak QP gp 60 args res:=W5o.i Wwy h
def Yxn:List MO:=[Qa (Qv 1) (MOp.ibox (Qn 0)),Qa (Qv 2) (Qd (Qo (Qp (Qq (Qs false)))))]
def Ww0:MC:=.r0 Yxn
def Yxo:List MO:=[Qa (Qv 6) (Qf 2 true (Qn 1)),Qa (Qv 7) (Qh 57 [(Qn 6)]),Qa (Qv 5) (Qd (Qn 7)),Qa (Qv 8) (Qi (Qn 5) 0),Qa (Qv 9) (Qi (Qn 5) 1),Qa (Qv 3) (MOp.alloc [(Qr Qu 0),(D.sl [])]),Qa none (Ql 2 (Qn 3) (Qn 8)),Qa (Qv 4) (Qd (Qn 9))]
def Ww1:MC:=.r0 Yxo
def Yxp:List MO:=[Qa (Qv 10) (Qd (Qn 4)),Qa (Qv 11) (Qe Qt Go.BinOp.eql (Qn 10) (Qo (Qp (Qq (Qr Qu 0))))),Qa (Qv 12) (Qd (Qn 11)),Qb 12 true (Qv 13),Qa (Qv 13) (Qf 2 true (Qn 1)),Qb 12 true (Qv 14),Qa (Qv 14) (Qf 2 true (Qn 3)),Qb 12 true (Qv 15),Qa (Qv 15) (Qh 29 [(Qn 13),(Qn 14)]),Qa (Qv 16) (Qm (Qn 12) (Qn 15) (Qo (Qp (Qq (Qs false))))),Qa (Qv 2) (Qd (Qn 16))]
def Ww2:MC:=.r0 Yxp
def Yxq:MC:=.seq Ww0 (.seq Ww1 (.seq Ww2 .ret))
attribute [go_sem] Yxn Yxo Yxp
theorem W5p:KK QP 61 f61 [1] Yxq [(RV.t 2)] 17:=by refine⟨func61,?_,?_,?_,?_⟩<;>kernel_rfl
theorem Ww3:Xaa QP 61=true:=by kernel_rfl
theorem Ww4 (h:GI QP gp [(RV.t 2)] res 17 Yxq args):Xak QP gp 61 args res:=W5p.i Ww3 h
def Yxr:List MO:=[Qa (Qv 1) (MOp.ibox (Qn 0)),Qa (Qv 2) (Qd (Qo (Qp (Qq D.nilP))))]
def Ww5:MC:=.r0 Yxr
def Yxs:List MO:=[Qa (Qv 3) (Qf 2 true (Qn 1)),Qa (Qv 4) MOp.mkM,Qa (Qv 5) (MOp.build [(Qr Qu 0),(D.sl []),(D.raw (Go.Value.map none))] [(0,(2,(Qn 3))),(2,(1,(Qn 4)))]),Qa (Qv 6) (MOp.box (Qn 5)),Qa (Qv 2) (Qd (Qn 6))]
def Ww6:MC:=.r0 Yxs
def Yxt:MC:=.seq Ww5 (.seq Ww6 .ret)
attribute [go_sem] Yxr Yxs
theorem W5q:KK QP 62 f62 [1] Yxt [(RV.t 2)] 7:=by refine⟨func62,?_,?_,?_,?_⟩<;>kernel_rfl
theorem Yxu:Xaa QP 62=true:=by kernel_rfl
theorem Wg8 (h:GT QP gp [(RV.t 2)] pre R 7 Yxt args):Tri QP gp 62 args pre R:=W5q.t h
def Yxv:List MO:=[Qa (Qv 2) (Qd (Qo (Qp A.nil)))]
def Ww7:MC:=.r0 Yxv
def Yxw:List MO:=[Qa (Qv 3) (MOp.alloc [(D.sl [])])]
def Ww8:MC:=.r0 Yxw
def Yxx:List MO:=[Qa (Qv 5) (Qd (Qn 0)),Qa (Qv 6) (Qh 91 [(Qn 5)])]
def Ww9:MC:=.r0 Yxx
def Yxy:List MO:=[Qa (Qv 4) (Qd (Qn 7))]
def Wxa:MC:=.r0 Yxy
def Yxz:List MO:=[Qa (Qv 8) (Qf 1 false (Qn 3)),Qa (Qv 9) (Qd (Qn 4)),Qa (Qv 10) (MOp.bslice 1 [(Qr Qu 0)] 1 [(0,(Qn 9))]),Qa (Qv 11) (MOp.app 3 1 8 (Qn 8) (Qn 10)),Qa none (Ql 1 (Qn 3) (Qn 11))]
def Wxb:MC:=.r0 Yxz
def Wxc:MC:=.rf (Qn 6) [7] Wxa (.blk 1 Wxb)
def Yx0:List MO:=[Qa (Qv 12) (Qf 1 false (Qn 3)),Qa (Qv 2) (Qd (Qn 12))]
def Wxd:MC:=.r0 Yx0
def Wg9:MC:=.seq Ww8 (.seq (.seq Ww9 (.blk 0 Wxc)) (.seq Wxd .ret))
def Yek:MC:=.seq Ww7 Wg9
attribute [go_sem] Yxv Yxw Yxx Yxy Yxz Yx0
theorem W5r:KK QP 63 f63 [] Yek [(RV.t 2)] 13:=by refine⟨func63,?_,?_,?_,?_⟩<;>kernel_rfl
theorem Yx1:Xaa QP 63=true:=by kernel_rfl
theorem Wha (h:GT QP gp [(RV.t 2)] pre R 13 Yek args):Tri QP gp 63 args pre R:=W5r.t h
def Yx2:List MO:=[Qa (Qv 4) (Qd (Qo (Qp A.nil)))]
def Wxe:MC:=.r0 Yx2
def Yx3:List MO:=[Qa (Qv 8) (Qd (Qn 1)),Qa (Qv 9) (Qk Qt (Qn 8)),Qa (Qv 10) (MOp.mkS 1 8 [(Qr Qu 0)] (Qn 9)),Qa (Qv 5) (Qd (Qn 10))]
def Wxf:MC:=.r0 Yx3
def Yx4:List MO:=[Qa (Qv 11) (Qd (Qn 5)),Qa (Qv 12) (Qd (Qn 1)),Qa (Qv 13) (MOp.cpy 1 (Qn 11) (Qn 12))]
def Wxg:MC:=.r0 Yx4
def Yx5:List MO:=[Qa (Qv 14) (Qd (Qn 5)),Qa (Qv 15) (Qk Qt (Qn 14)),Qa (Qv 16) (Qd (Qo (Qp (Qq (Qr Qu 0)))))]
def Wxh:MC:=.r0 Yx5
def Yx6:List MO:=[Qa (Qv 17) (Qe Qt Go.BinOp.lss (Qn 16) (Qn 15))]
def Wxi:MC:=.r0 Yx6
def Yx7:List MO:=[Qa (Qv 18) (Qd (Qn 16)),Qa (Qv 19) (Qj 1 (Qn 14) (Qn 16)),Qa (Qv 20) (Qf 1 false (Qn 19)),Qa (Qv 6) (Qd (Qn 18)),Qa (Qv 7) (Qd (Qn 20))]
def Wxj:MC:=.r0 Yx7
def Yx8:List MO:=[Qa (Qv 21) (Qd (Qn 5)),Qa (Qv 22) (Qd (Qn 6)),Qa (Qv 23) (Qd (Qn 0)),Qa (Qv 24) (MOp.nck (Qn 23)),Qa (Qv 25) (Qg 2 (Qn 24)),Qa (Qv 26) (Qf 1 false (Qn 25)),Qa (Qv 27) (Qd (Qn 7)),Qa (Qv 28) (MOp.lkp false (Qp (Qq (Qr Qu 0))) false [Qt] (Qn 26) (Qn 27)),Qa (Qv 29) (Qj 1 (Qn 21) (Qn 22)),Qa none (Ql 1 (Qn 29) (Qn 28))]
def Wxk:MC:=.r0 Yx8
def Yel:List MO:=[Qa (Qv 30) (Qe Qt Go.BinOp.add (Qn 16) (Qo (Qp (Qq (Qr Qu 1))))),Qa (Qv 16) (Qd (Qn 30))]
def Whb:MC:=.r0 Yel
def Whc:MC:=.seq Wxi (.seq (.cond (Qn 17) .skip (MC.exit 0)) (.seq (.blk 1 (.seq Wxj Wxk)) Whb))
def Xg3:List MO:=[Qa (Qv 31) (Qd (Qn 5)),Qa (Qv 4) (Qd (Qn 31))]
def Whd:MC:=.r0 Xg3
def Whe:MC:=.seq Wxg (.seq (.seq Wxh (.blk 0 (.loop Whc))) (.seq Whd .ret))
def Yem:MC:=.seq Wxe (.seq Wxf Whe)
attribute [go_sem] Yx2 Yx3 Yx4 Yx5 Yx6 Yx7 Yx8 Yel
theorem W5s:KK QP 65 f65 [] Yem [(RV.t 4)] 32:=by refine⟨func65,?_,?_,?_,?_⟩<;>kernel_rfl
theorem Wxl:Xaa QP 65=true:=by kernel_rfl
theorem Whf (h:GT QP gp [(RV.t 4)] pre R 32 Yem args):Tri QP gp 65 args pre R:=W5s.t h
def Yx9:List MO:=[Qa (Qv 3) (MOp.ibox (Qn 0)),Qa (Qv 6) (Qd (Qo (Qp A.nil)))]
def Wxm:MC:=.r0 Yx9
def Yya:List MO:=[Qa (Qv 10) (Qd (Qn 2)),Qa (Qv 11) (Qd (Qn 1)),Qa (Qv 12) (Qh 60 [(Qn 10),(Qn 11)]),Qa (Qv 13) (Qe Qt Go.BinOp.geq (Qn 12) (Qo (Qp (Qq (Qr Qu 0)))))]
def Wxn:MC:=.r0 Yya
def Yyb:List MO:=[Qa (Qv 14) (Qd (Qn 2)),Qa (Qv 6) (Qd (Qn 14))]
def Wxo:MC:=.r0 Yyb
def Yyc:List MO:=[Qa (Qv 15) (Qd (Qn 2)),Qa (Qv 16) (Qd (Qn 1)),Qa (Qv 17) (MOp.bslice 1 [(Qr Qu 0)] 1 [(0,(Qn 16))]),Qa (Qv 18) (MOp.app 3 1 8 (Qn 15) (Qn 17)),Qa (Qv 2) (Qd (Qn 18))]
def Wxp:MC:=.r0 Yyc
def Yyd:List MO:=[Qa (Qv 20) (Qf 2 true (Qn 3)),Qa (Qv 21) (Qd (Qn 1)),Qa (Qv 22) (Qh 47 [(Qn 20),(Qn 21)]),Qa (Qv 19) (Qd (Qn 22)),Qa (Qv 23) (Qi (Qn 19) 0),Qa (Qv 24) (Qi (Qn 19) 1),Qa (Qv 7) (Qd (Qn 23)),Qa (Qv 8) (Qd (Qn 24))]
def Wxq:MC:=.r0 Yyd
def Yen:List MO:=[Qa (Qv 9) (Qd (Qo (Qp (Qq (Qr Qu 0)))))]
def Whg:MC:=.r0 Yen
def Yeo:List MO:=[Qa (Qv 25) (Qd (Qn 9)),Qa (Qv 26) (Qd (Qn 7)),Qa (Qv 27) (Qk Qt (Qn 26)),Qa (Qv 28) (Qe Qt Go.BinOp.lss (Qn 25) (Qn 27))]
def Whh:MC:=.r0 Yeo
def Yep:List MO:=[Qa (Qv 31) (Qf 2 true (Qn 3)),Qa (Qv 32) (Qd (Qn 7)),Qa (Qv 33) (Qd (Qn 9)),Qa (Qv 34) (Qj 1 (Qn 32) (Qn 33)),Qa (Qv 35) (Qf 1 false (Qn 34)),Qa (Qv 36) (Qd (Qn 2)),Qc (Qv 37) (Qh 90 [(Qn 31),(Qn 35),(Qn 36)]),Qa (Qv 2) (Qd (Qn 37))]
def Whi:MC:=.reg true Yep
def Yeq:List MO:=[Qa (Qv 29) (Qd (Qn 9)),Qa (Qv 30) (Qe Qt Go.BinOp.add (Qn 29) (Qo (Qp (Qq (Qr Qu 1))))),Qa (Qv 9) (Qd (Qn 30))]
def Whj:MC:=.r0 Yeq
def Whk:MC:=.seq Whg (.blk 0 (.loop (.seq (.seq Whh (.cond (Qn 28) .skip (MC.exit 0))) (.seq (.blk 1 Whi) Whj))))
def Yer:List MO:=[Qa (Qv 38) (Qd (Qn 2)),Qa (Qv 6) (Qd (Qn 38))]
def Whl:MC:=.r0 Yer
def Whm:MC:=.seq Wxp (.seq Wxq (.seq Whk (.seq Whl .ret)))
def Yes:MC:=.seq Wxm (.seq (.seq Wxn (.cond (Qn 13) (.seq Wxo .ret) .skip)) Whm)
attribute [go_sem] Yx9 Yya Yyb Yyc Yyd Yen Yeo Yep Yeq Yer
theorem W5t:KK QP 90 f90 [3] Yes [(RV.t 6)] 39:=by refine⟨func90,?_,?_,?_,?_⟩<;>kernel_rfl
theorem Yet:Xaa QP 90=true:=by kernel_rfl
theorem Xpt (h:GT QP gp [(RV.t 6)] pre R 39 Yes args):Tri QP gp 90 args pre R:=W5t.t h
def Yye:List MO:=[Qa (Qv 1) (MOp.box (Qn 0)),Qa (Qv 2) (Qd (Qo (Qp (Qq D.nilF))))]
def Wxr:MC:=.r0 Yye
def Yyf:List MO:=[Qa (Qv 3) (MOp.mkF (Go.Fn.func 114) [(Qn 1)]),Qa (Qv 2) (Qd (Qn 3))]
def Wxs:MC:=.r0 Yyf
def Yyg:MC:=.seq Wxr (.seq Wxs .ret)
attribute [go_sem] Yye Yyf
theorem W5u:KK QP 91 f91 [] Yyg [(RV.t 2)] 4:=by refine⟨func91,?_,?_,?_,?_⟩<;>kernel_rfl
theorem Wxt:Xaa QP 91=true:=by kernel_rfl
theorem Whn (h:GT QP gp [(RV.t 2)] pre R 4 Yyg args):Tri QP gp 91 args pre R:=W5u.t h
def Yeu:List MO:=[Qa (Qv 10) (Qf 1 false (Qn 1)),Qa (Qv 11) (MOp.nck (Qn 10)),Qa (Qv 12) (Qg 0 (Qn 11)),Qa (Qv 13) (Qg 0 (Qn 12)),Qa (Qv 14) (Qf 1 false (Qn 13)),Qa (Qv 15) (MOp.bslO 1 [(Qr Qu 0)] 1 [(0,(Qn 14))]),Qa (Qv 3) (MOp.alloc [(D.sl [])]),Qa none (Ql 1 (Qn 3) (Qn 15))]
def Who:MC:=.r0 Yeu
def Yev:List MO:=[Qa (Qv 16) (MOp.mkF (Go.Fn.func 115) [(Qn 3)]),Qa (Qv 4) (Qd (Qn 16))]
def Whp:MC:=.r0 Yev
def Yew:List MO:=[Qa (Qv 17) (Qf 1 false (Qn 3)),Qa (Qv 18) (Qk Qt (Qn 17)),Qa (Qv 19) (Qe Qt Go.BinOp.gtr (Qn 18) (Qo (Qp (Qq (Qr Qu 0)))))]
def Whq:MC:=.r0 Yew
def Yex:List MO:=[Qa (Qv 20) (Qf 1 false (Qn 3)),Qa (Qv 21) (Qf 1 false (Qn 3)),Qa (Qv 22) (Qk Qt (Qn 21)),Qa (Qv 23) (Qe Qt Go.BinOp.sub (Qn 22) (Qo (Qp (Qq (Qr Qu 1))))),Qa (Qv 24) (Qj 1 (Qn 20) (Qn 23)),Qa (Qv 25) (Qf 1 false (Qn 24)),Qa (Qv 5) (Qd (Qn 25))]
def Whr:MC:=.r0 Yex
def Yey:List MO:=[Qa (Qv 26) (Qf 1 false (Qn 3)),Qa (Qv 27) (Qf 1 false (Qn 3)),Qa (Qv 28) (Qk Qt (Qn 27)),Qa (Qv 29) (Qe Qt Go.BinOp.sub (Qn 28) (Qo (Qp (Qq (Qr Qu 1))))),Qa (Qv 30) (MOp.slc 1 (Qn 26) none (Qv (Qn 29))),Qa none (Ql 1 (Qn 3) (Qn 30))]
def Whs:MC:=.r0 Yey
def Xy4:List MO:=[Qa (Qv 32) (Qf 1 false (Qn 1)),Qa (Qv 33) (MOp.nck (Qn 32)),Qa (Qv 34) (Qg 2 (Qn 33)),Qa (Qv 35) (Qf 1 false (Qn 34)),Qa (Qv 36) (Qd (Qn 5)),Qa (Qv 37) (MOp.lkp true (Qp (Qq (Qr Qu 0))) false [Qt] (Qn 35) (Qn 36)),Qa (Qv 31) (Qd (Qn 37)),Qa (Qv 38) (Qi (Qn 31) 0),Qa (Qv 39) (Qi (Qn 31) 1),Qa (Qv 6) (Qd (Qn 38)),Qa (Qv 7) (Qd (Qn 39))]
def Yqi:MC:=.r0 Xy4
def Xy5:List MO:=[Qa (Qv 40) (Qd (Qn 7))]
def Yqj:MC:=.r0 Xy5
def Xy6:List MO:=[Qa (Qv 41) (Qf 1 false (Qn 1)),Qa (Qv 42) (MOp.nck (Qn 41)),Qa (Qv 43) (Qg 2 (Qn 42)),Qa (Qv 44) (Qf 1 false (Qn 43)),Qa (Qv 45) (Qd (Qn 5)),Qa (Qv 46) (Qf 1 false (Qn 1)),Qa (Qv 47) (MOp.nck (Qn 46)),Qa (Qv 48) (Qg 2 (Qn 47)),Qa (Qv 49) (Qf 1 false (Qn 48)),Qa (Qv 50) (Qk Leaf.b (Qn 49)),Qa none (MOp.mupd false [Qt] (Qn 44) (Qn 45) (Qn 50))]
def Yqk:MC:=.reg true Xy6
def Xy7:List MO:=[Qa (Qv 51) (Qd (Qn 0)),Qa (Qv 52) (Qd (Qn 5)),Qa (Qv 53) (MOp.callv (Qn 51) [(Qn 52)]),Qa (Qv 54) (MOp.not (Qn 53))]
def Yql:MC:=.r0 Xy7
def Xy8:List MO:=[Qa (Qv 56) (Qf 1 false (Qn 1)),Qa (Qv 57) (MOp.nck (Qn 56)),Qa (Qv 58) (Qg 0 (Qn 57)),Qa (Qv 59) (Qf 2 true (Qn 58)),Qa (Qv 60) (Qd (Qn 5)),Qa (Qv 61) (Qh 21 [(Qn 59),(Qn 60)]),Qa (Qv 55) (Qd (Qn 61)),Qa (Qv 62) (Qi (Qn 55) 0),Qa (Qv 63) (Qi (Qn 55) 1),Qa (Qv 8) (Qd (Qn 62)),Qa (Qv 9) (Qd (Qn 63))]
def Yqm:MC:=.r0 Xy8
def Xy9:List MO:=[Qa (Qv 64) (Qd (Qn 4)),Qa (Qv 65) (Qd (Qn 8)),Qa (Qv 66) (MOp.callv (Qn 64) [(Qn 65)])]
def Yqn:MC:=.r0 Xy9
def Yqo:MC:=.seq Yqk (.seq (.seq Yql (.cond (Qn 54) (MC.exit 0) .skip)) (.seq Yqm Yqn))
def Yqp:MC:=.seq Whs (.seq (.seq Yqi (.seq Yqj (.cond (Qn 40) (MC.exit 1) .skip))) Yqo)
def Yqq:MC:=.seq Whp (.seq .skip (.blk 0 (.loop (.seq (.seq Whq (.cond (Qn 19) .skip (MC.exit 0))) (.blk 1 (.seq Whr Yqp))))))
def Xza:MC:=.scope (.seq Who Yqq)
attribute [go_sem] Yeu Yev Yew Yex Yey Xy4 Xy5 Xy6 Xy7 Xy8 Xy9
theorem Wxu:KK QP 114 f114 [15] Xza [] 67:=by refine⟨func114,?_,?_,?_,?_⟩<;>kernel_rfl
theorem Wht:Xaa QP 114=true:=by kernel_rfl
theorem Yqr (h:GT QP gp [] pre R 67 Xza args):Tri QP gp 114 args pre R:=Wxu.t h
def Yez:List MO:=[Qa (Qv 4) (Qd (Qn 0)),Qa (Qv 5) (Qk Qt (Qn 4)),Qa (Qv 6) (Qe Qt Go.BinOp.sub (Qn 5) (Qo (Qp (Qq (Qr Qu 1))))),Qa (Qv 3) (Qd (Qn 6))]
def Whu:MC:=.r0 Yez
def Ye0:List MO:=[Qa (Qv 7) (Qd (Qn 3)),Qa (Qv 8) (Qe Qt Go.BinOp.geq (Qn 7) (Qo (Qp (Qq (Qr Qu 0)))))]
def Whv:MC:=.r0 Ye0
def Ye1:List MO:=[Qa (Qv 11) (Qf 1 false (Qn 1)),Qa (Qv 12) (Qd (Qn 0)),Qa (Qv 13) (Qd (Qn 3)),Qa (Qv 14) (Qj 1 (Qn 12) (Qn 13)),Qa (Qv 15) (Qf 1 false (Qn 14)),Qa (Qv 16) (MOp.bslice 1 [(Qr Qu 0)] 1 [(0,(Qn 15))]),Qa (Qv 17) (MOp.app 3 1 8 (Qn 11) (Qn 16)),Qa none (Ql 1 (Qn 1) (Qn 17))]
def Whw:MC:=.reg true Ye1
def Ye2:List MO:=[Qa (Qv 9) (Qd (Qn 3)),Qa (Qv 10) (Qe Qt Go.BinOp.sub (Qn 9) (Qo (Qp (Qq (Qr Qu 1))))),Qa (Qv 3) (Qd (Qn 10))]
def Whx:MC:=.r0 Ye2
def Xzb:MC:=.seq Whu (.blk 0 (.loop (.seq (.seq Whv (.cond (Qn 8) .skip (MC.exit 0))) (.seq (.blk 1 Whw) Whx))))
attribute [go_sem] Yez Ye0 Ye1 Ye2
theorem Wxv:KK QP 115 f115 [] Xzb [] 18:=by refine⟨func115,?_,?_,?_,?_⟩<;>kernel_rfl
theorem Why:Xaa QP 115=true:=by kernel_rfl
theorem Yqs (h:GT QP gp [] pre R 18 Xzb args):Tri QP gp 115 args pre R:=Wxv.t h
end Go.Fw.L07
