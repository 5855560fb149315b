/- Small codes. -/
import Derived.Test.YtiklocoaghcliaaGreatDoorFd
import Derived.Test.YtiklocoaghcliaaGreatDoorProg
set_option linter.all false
namespace Go.Fw.L07
open Go Go.Fw
open Go.Proofs.Tryz renaming prog->QP
open Go.Proofs.Tryz (f117 f118 f138 f139 f22 f45 f46 f47 f70 f72 f95 func117 func118 func138 func139 func22 func45 func46 func47 func70 func72 func95)
open Go.Fw.MO renaming op->Qa
open Go.Fw.MOp renaming mv->Qd,bin->Qe,load->Qf,fad->Qg,call->Qh,ext->Qi,iad->Qj,len->Qk,store->Ql
open Go.Fw.Opd renaming t->Qn,c->Qo
open Go.Fw.V renaming one->Qp
open Go.Fw.A renaming d->Qq
open Go.Fw.D renaming int->Qr,bool->Qs
open Go.Fw.Leaf renaming i->Qt
open Go.IntKind renaming i64->Qu
open Option renaming some->Qv
variable {gp:Xaj} {args:List V} {res:V} {pre:List Ch} {R:V->List Ch->Prop}
def Ywx:List MO:=[Qa (Qv 2) (MOp.ibox (Qn 0)),Qa (Qv 3) (MOp.ibox (Qn 1)),Qa (Qv 4) (Qd (Qo (Qp (Qq (Qs false))))),Qa (Qv 5) (Qd (Qo (Qp (Qq (Qr Qu 0)))))]
def Wt8:MC:=.r0 Ywx
def Ywy:List MO:=[Qa (Qv 11) (Qf 2 true (Qn 2)),Qa (Qv 12) (Qf 2 true (Qn 3)),Qa (Qv 13) (MOp.bslice 2 [(Qr Qu 0),(D.sl [])] 2 [(0,(Qn 11)),(1,(Qn 12))]),Qa (Qv 14) (Qk Qt (Qn 13)),Qa (Qv 15) (Qd (Qo (Qp (Qq (Qr Qu 0)))))]
def Wt9:MC:=.r0 Ywy
def Ywz:List MO:=[Qa (Qv 16) (Qe Qt Go.BinOp.lss (Qn 15) (Qn 14))]
def Wua:MC:=.r0 Ywz
def Yw0:List MO:=[Qa (Qv 17) (Qj 2 (Qn 13) (Qn 15)),Qa (Qv 18) (Qf 2 true (Qn 17)),Qa (Qv 7) (MOp.alloc [(Qr Qu 0),(D.sl [])]),Qa none (Ql 2 (Qn 7) (Qn 18))]
def Wub:MC:=.r0 Yw0
def Yw1:List MO:=[Qa (Qv 20) (Qf 2 true (Qn 7)),Qa (Qv 21) (Qh 19 [(Qn 20)]),Qa (Qv 19) (Qd (Qn 21)),Qa (Qv 22) (Qi (Qn 19) 0),Qa (Qv 23) (Qi (Qn 19) 1),Qa (Qv 8) (Qd (Qn 22)),Qa (Qv 9) (Qd (Qn 23))]
def Wuc:MC:=.r0 Yw1
def Yw2:List MO:=[Qa (Qv 24) (Qd (Qn 9)),Qa (Qv 25) (Qe Qt Go.BinOp.neq (Qn 24) (Qo (Qp (Qq (Qr Qu 0)))))]
def Wud:MC:=.r0 Yw2
def Yw3:List MO:=[Qa (Qv 26) (Qd (Qn 9)),Qa (Qv 4) (Qd (Qo (Qp (Qq (Qs false))))),Qa (Qv 5) (Qd (Qn 26))]
def Wue:MC:=.r0 Yw3
def Wdz:MC:=.seq Wub (.seq Wuc (.seq Wud (.cond (Qn 25) (.seq Wue .ret) .skip)))
def Ye2:List MO:=[Qa (Qv 27) (Qe Qt Go.BinOp.add (Qn 15) (Qo (Qp (Qq (Qr Qu 1))))),Qa (Qv 15) (Qd (Qn 27))]
def Wd0:MC:=.r0 Ye2
def Wd1:MC:=.seq Wt9 (.blk 0 (.loop (.seq Wua (.seq (.cond (Qn 16) .skip (MC.exit 0)) (.seq (.blk 1 Wdz) Wd0)))))
def Ye3:List MO:=[Qa (Qv 28) (Qf 2 true (Qn 2)),Qa (Qv 29) (Qf 2 true (Qn 3)),Qa (Qv 30) (Qh 46 [(Qn 28),(Qn 29)]),Qa (Qv 31) (Qh 45 [(Qn 30)]),Qa (Qv 32) (Qh 47 [(Qn 31)]),Qa (Qv 10) (Qd (Qn 32))]
def Wd2:MC:=.r0 Ye3
def Ye4:List MO:=[Qa (Qv 33) (Qd (Qn 10)),Qa (Qv 34) (Qg 0 (Qn 2)),Qa (Qv 35) (Qf 1 false (Qn 34)),Qa (Qv 36) (Qj 1 (Qn 33) (Qn 35)),Qa (Qv 37) (Qf 1 false (Qn 36)),Qa (Qv 38) (Qd (Qn 10)),Qa (Qv 39) (Qg 0 (Qn 3)),Qa (Qv 40) (Qf 1 false (Qn 39)),Qa (Qv 41) (Qg 1 (Qn 2)),Qa (Qv 42) (Qf 1 false (Qn 41)),Qa (Qv 43) (Qk Qt (Qn 42)),Qa (Qv 44) (Qe Qt Go.BinOp.add (Qn 40) (Qn 43)),Qa (Qv 45) (Qj 1 (Qn 38) (Qn 44)),Qa (Qv 46) (Qf 1 false (Qn 45)),Qa (Qv 47) (Qe Qt Go.BinOp.eql (Qn 37) (Qn 46)),Qa (Qv 4) (Qd (Qn 47)),Qa (Qv 5) (Qd (Qo (Qp (Qq (Qr Qu 0)))))]
def Wd3:MC:=.reg true Ye4
def Ye5:MC:=.seq Wt8 (.seq Wd1 (.seq Wd2 (.seq Wd3 .ret)))
attribute [go_sem] Ywx Ywy Ywz Yw0 Yw1 Yw2 Yw3 Ye2 Ye3 Ye4
theorem W0o:KK QP 22 f22 [2,3] Ye5 [(RV.t 4),(RV.t 5)] 48:=by refine⟨func22,?_,?_,?_,?_⟩<;>kernel_rfl
theorem Wuf:Xaa QP 22=true:=by kernel_rfl
theorem Wug (h:GI QP gp [(RV.t 4),(RV.t 5)] res 48 Ye5 args):Xao QP gp 22 args res:=W0o.i Wuf h
def Yw4:List MO:=[Qa (Qv 1) (MOp.ibox (Qn 0)),Qa (Qv 2) (Qd (Qo (Qp (Qq D.nilP))))]
def Wuh:MC:=.r0 Yw4
def Yw5:List MO:=[Qa (Qv 3) (Qf 2 true (Qn 1)),Qa (Qv 4) (Qg 1 (Qn 1)),Qa (Qv 5) (Qf 1 false (Qn 4)),Qa (Qv 6) (Qk Qt (Qn 5)),Qa (Qv 7) (MOp.mkS 1 8 [(Qr Qu 0)] (Qn 6)),Qa (Qv 8) (MOp.build [(Qr Qu 0),(D.sl []),(D.sl [])] [(0,(2,(Qn 3))),(2,(1,(Qn 7)))]),Qa (Qv 9) (MOp.box (Qn 8)),Qa (Qv 2) (Qd (Qn 9))]
def Wui:MC:=.reg true Yw5
def Yw6:MC:=.seq Wuh (.seq Wui .ret)
attribute [go_sem] Yw4 Yw5
theorem W0p:KK QP 45 f45 [1] Yw6 [(RV.t 2)] 10:=by refine⟨func45,?_,?_,?_,?_⟩<;>kernel_rfl
theorem Wuj:Xaa QP 45=true:=by kernel_rfl
theorem Wd4 (h:GT QP gp [(RV.t 2)] pre R 10 Yw6 args):Tri QP gp 45 args pre R:=W0p.t h
def Xhv:List MO:=[Qa (Qv 2) (MOp.ibox (Qn 0)),Qa (Qv 3) (MOp.ibox (Qn 1)),Qa (Qv 4) (MOp.alloc [(Qr Qu 0),(D.sl [])])]
def Wuk:MC:=.r0 Xhv
def Xhw:List MO:=[Qa (Qv 9) (Qg 0 (Qn 2)),Qa (Qv 10) (Qf 1 false (Qn 9)),Qa (Qv 11) (Qg 1 (Qn 2)),Qa (Qv 12) (Qf 1 false (Qn 11)),Qa (Qv 13) (MOp.callN 70 [(Qn 12)]),Qa (Qv 14) (MOp.build [(Qr Qu 0),(D.sl [])] [(0,(1,(Qn 10))),(1,(1,(Qn 13)))]),Qa (Qv 5) (MOp.alloc [(Qr Qu 0),(D.sl [])]),Qa none (Ql 2 (Qn 5) (Qn 14))]
def Wul:MC:=.regw Xhw
def Xhx:List MO:=[Qa (Qv 15) (Qg 1 (Qn 3)),Qa (Qv 16) (Qf 1 false (Qn 15)),Qa (Qv 17) (Qk Qt (Qn 16)),Qa (Qv 18) (Qd (Qo (Qp (Qq (Qr Qu 0)))))]
def Wum:MC:=.r0 Xhx
def Xg8:List MO:=[Qa (Qv 19) (Qe Qt Go.BinOp.lss (Qn 18) (Qn 17))]
def Wun:MC:=.r0 Xg8
def Xhy:List MO:=[Qa (Qv 20) (Qj 6 (Qn 16) (Qn 18)),Qa (Qv 21) (Qf 6 true (Qn 20)),Qa (Qv 7) (MOp.alloc [(Qr Qu 0),(Qr Qu 0),(Qr Qu 0),(D.str (ByteArray.mk #[])),(D.sl []),(D.sl [])]),Qa none (Ql 6 (Qn 7) (Qn 21))]
def Wuo:MC:=.r0 Xhy
def Xhz:List MO:=[Qa (Qv 22) (Qg 5 (Qn 7)),Qa (Qv 23) (Qf 1 false (Qn 22)),Qa (Qv 24) (Qh 71 [(Qn 23)]),Qa (Qv 25) (Qg 5 (Qn 7)),Qa none (Ql 1 (Qn 25) (Qn 24))]
def Wup:MC:=.r0 Xhz
def Xh0:List MO:=[Qa (Qv 26) (Qg 5 (Qn 7)),Qa (Qv 27) (Qf 1 false (Qn 26)),Qa (Qv 28) (Qk Qt (Qn 27)),Qa (Qv 29) (Qd (Qo (Qp (Qq (Qr Qu 0)))))]
def Wuq:MC:=.r0 Xh0
def Xe5:List MO:=[Qa (Qv 30) (Qe Qt Go.BinOp.lss (Qn 29) (Qn 28))]
def Wd5:MC:=.r0 Xe5
def Xe6:List MO:=[Qa (Qv 31) (Qd (Qn 29)),Qa (Qv 8) (Qd (Qn 31))]
def Wd6:MC:=.r0 Xe6
def Xe7:List MO:=[Qa (Qv 32) (Qg 5 (Qn 7)),Qa (Qv 33) (Qf 1 false (Qn 32)),Qa (Qv 34) (Qd (Qn 8)),Qa (Qv 35) (Qj 1 (Qn 33) (Qn 34)),Qa (Qv 36) (Qf 1 false (Qn 35)),Qa (Qv 37) (Qg 1 (Qn 2)),Qa (Qv 38) (Qf 1 false (Qn 37)),Qa (Qv 39) (Qk Qt (Qn 38)),Qa (Qv 40) (Qe Qt Go.BinOp.add (Qn 36) (Qn 39)),Qa (Qv 41) (Qj 1 (Qn 33) (Qn 34)),Qa none (Ql 1 (Qn 41) (Qn 40))]
def Wd7:MC:=.reg true Xe7
def Xe8:List MO:=[Qa (Qv 42) (Qe Qt Go.BinOp.add (Qn 29) (Qo (Qp (Qq (Qr Qu 1))))),Qa (Qv 29) (Qd (Qn 42))]
def Wd8:MC:=.r0 Xe8
def Wd9:MC:=.seq Wd5 (.seq (.cond (Qn 30) .skip (MC.exit 2)) (.seq (.blk 3 (.seq Wd6 Wd7)) Wd8))
def Xe9:List MO:=[Qa (Qv 43) (Qg 1 (Qn 5)),Qa (Qv 44) (Qf 1 false (Qn 43)),Qa (Qv 45) (Qf 6 true (Qn 7)),Qa (Qv 46) (MOp.bslice 6 [(Qr Qu 0),(Qr Qu 0),(Qr Qu 0),(D.str (ByteArray.mk #[])),(D.sl []),(D.sl [])] 1 [(0,(Qn 45))]),Qa (Qv 47) (MOp.app 40 6 88 (Qn 44) (Qn 46)),Qa (Qv 48) (Qg 1 (Qn 5)),Qa none (Ql 1 (Qn 48) (Qn 47))]
def Wea:MC:=.r0 Xe9
def Web:MC:=.seq Wup (.seq (.seq Wuq (.blk 2 (.loop Wd9))) Wea)
def Xfa:List MO:=[Qa (Qv 49) (Qe Qt Go.BinOp.add (Qn 18) (Qo (Qp (Qq (Qr Qu 1))))),Qa (Qv 18) (Qd (Qn 49))]
def Wec:MC:=.r0 Xfa
def Wed:MC:=.seq Wun (.seq (.cond (Qn 19) .skip (MC.exit 0)) (.seq (.blk 1 (.seq Wuo Web)) Wec))
def Xfb:List MO:=[Qa (Qv 50) (Qf 2 true (Qn 5)),Qa none (Ql 2 (Qn 4) (Qn 50))]
def Wee:MC:=.r0 Xfb
def Wef:MC:=.seq Wul (.seq (.seq Wum (.blk 0 (.loop Wed))) (.seq Wee .ret))
def Ye6:MC:=.seq Wuk Wef
theorem W0q:KK QP 46 f46 [2,3,3013] Ye6 [(RV.cell 4 2 true)] 51:=by refine⟨func46,?_,?_,?_,?_⟩<;>kernel_rfl
theorem Wur:Xaa QP 46=true:=by kernel_rfl
theorem Wus (h:GI QP gp [(RV.cell 4 2 true)] res 51 Ye6 args):Xao QP gp 46 args res:=W0q.i Wur h
def Yw7:List MO:=[Qa (Qv 2) (Qd (Qo (Qp A.nil)))]
def Wut:MC:=.r0 Yw7
def Yw8:List MO:=[Qa (Qv 6) (Qd (Qn 0)),Qa (Qv 7) (MOp.mkMv (Go.Fn.func 72) (Qn 6)),Qa (Qv 3) (Qd (Qn 7))]
def Wuu:MC:=.r0 Yw8
def Yw9:List MO:=[Qa (Qv 8) (Qd (Qn 3)),Qa (Qv 9) (MOp.callv (Qn 8) []),Qa (Qv 4) (Qd (Qo (Qp (Qq (Qr Qu 0))))),Qa (Qv 5) (Qd (Qn 9))]
def Wuv:MC:=.r0 Yw9
def Yxa:List MO:=[Qa (Qv 10) (Qd (Qn 5)),Qa (Qv 11) (Qd (Qn 4)),Qa (Qv 12) (Qe Qt Go.BinOp.gtr (Qn 10) (Qn 11))]
def Wuw:MC:=.r0 Yxa
def Yxb:List MO:=[Qa (Qv 13) (Qd (Qn 5)),Qa (Qv 14) (Qd (Qn 3)),Qa (Qv 15) (MOp.callv (Qn 14) []),Qa (Qv 4) (Qd (Qn 13)),Qa (Qv 5) (Qd (Qn 15))]
def Wux:MC:=.r0 Yxb
def Ye7:List MO:=[Qa (Qv 16) (Qd (Qn 0)),Qa (Qv 17) (MOp.nck (Qn 16)),Qa (Qv 18) (Qg 2 (Qn 17)),Qa (Qv 19) (Qf 1 false (Qn 18)),Qa (Qv 2) (Qd (Qn 19))]
def Weg:MC:=.r0 Ye7
def Weh:MC:=.seq (.seq Wuv (.blk 0 (.loop (.seq (.seq Wuw (.cond (Qn 12) .skip (MC.exit 0))) (.blk 1 Wux))))) (.seq Weg .ret)
def Ye8:MC:=.seq Wut (.seq Wuu Weh)
attribute [go_sem] Yw7 Yw8 Yw9 Yxa Yxb Ye7
theorem W0r:KK QP 47 f47 [] Ye8 [(RV.t 2)] 20:=by refine⟨func47,?_,?_,?_,?_⟩<;>kernel_rfl
theorem Wuy:Xaa QP 47=true:=by kernel_rfl
theorem Wei (h:GT QP gp [(RV.t 2)] pre R 20 Ye8 args):Tri QP gp 47 args pre R:=W0r.t h
def Xkl:List MO:=[Qa (Qv 2) (Qd (Qo (Qp A.nil)))]
def Wuz:MC:=.r0 Xkl
def Xkm:List MO:=[Qa (Qv 3) (Qd (Qn 0)),Qa (Qv 4) (MOp.nilq NK.sl false (Qn 3))]
def Wu0:MC:=.r0 Xkm
def Xm3:List MO:=[Qa (Qv 2) (Qd (Qo (Qp A.nil)))]
def Wu1:MC:=.r0 Xm3
def Xon:List MO:=[Qa (Qv 5) (MOp.bslO 6 [(Qr Qu 0),(Qr Qu 0),(Qr Qu 0),(D.str (ByteArray.mk #[])),(D.sl []),(D.sl [])] 0 []),Qa (Qv 6) (Qd (Qn 0)),Qa (Qv 7) (MOp.app 40 6 88 (Qn 5) (Qn 6)),Qa (Qv 2) (Qd (Qn 7))]
def Wu2:MC:=.r0 Xon
def Ye9:MC:=.seq Wuz (.seq (.seq Wu0 (.cond (Qn 4) (.seq Wu1 .ret) .skip)) (.seq Wu2 .ret))
theorem W0s:KK QP 70 f70 [5] Ye9 [(RV.t 2)] 8:=by refine⟨func70,?_,?_,?_,?_⟩<;>kernel_rfl
theorem Wu3:Xaa QP 70=true:=by kernel_rfl
theorem Wej (h:GT QP gp [(RV.t 2)] pre R 8 Ye9 args):Tri QP gp 70 args pre R:=W0s.t h
def Yxc:List MO:=[Qa (Qv 2) (Qd (Qo (Qp (Qq (Qr Qu 0)))))]
def Wu4:MC:=.r0 Yxc
def Yxd:List MO:=[Qa (Qv 9) MOp.mkM,Qa (Qv 3) (MOp.alloc [(D.raw (Go.Value.map none))]),Qa none (Ql 1 (Qn 3) (Qn 9))]
def Wu5:MC:=.r0 Yxd
def Yxe:List MO:=[Qa (Qv 10) (Qd (Qn 0)),Qa (Qv 11) (MOp.nck (Qn 10)),Qa (Qv 12) (Qg 2 (Qn 11)),Qa (Qv 13) (Qf 1 false (Qn 12)),Qa (Qv 14) (Qk Qt (Qn 13)),Qa (Qv 15) (MOp.mkS 1 8 [(Qr Qu 0)] (Qn 14)),Qa (Qv 4) (MOp.alloc [(D.sl [])]),Qa none (Ql 1 (Qn 4) (Qn 15))]
def Wu6:MC:=.r0 Yxe
def Yxf:List MO:=[Qa (Qv 16) (Qd (Qn 0)),Qa (Qv 17) (Qh 95 [(Qn 16)])]
def Wu7:MC:=.r0 Yxf
def Yxg:List MO:=[Qa (Qv 5) (Qd (Qn 18))]
def Wu8:MC:=.r0 Yxg
def Yxh:List MO:=[Qa (Qv 6) (MOp.alloc [(Qr Qu 0),(Qr Qu 0),(Qr Qu 0),(D.str (ByteArray.mk #[])),(D.str (ByteArray.mk #[])),(D.str (ByteArray.mk #[]))]),Qa none (Ql 6 (Qn 6) (Qn 19))]
def Wu9:MC:=.r0 Yxh
def Yxi:List MO:=[Qa (Qv 21) (Qf 1 false (Qn 3)),Qa (Qv 22) (Qf 6 true (Qn 6)),Qa (Qv 23) (MOp.lkp true (Qp (Qq (Qr Qu 0))) true [Qt,Qt,Qt,Leaf.s,Leaf.s,Leaf.s] (Qn 21) (Qn 22)),Qa (Qv 20) (Qd (Qn 23)),Qa (Qv 24) (Qi (Qn 20) 0),Qa (Qv 25) (Qi (Qn 20) 1),Qa (Qv 7) (Qd (Qn 24)),Qa (Qv 8) (Qd (Qn 25))]
def Wva:MC:=.r0 Yxi
def Yxj:List MO:=[Qa (Qv 26) (Qd (Qn 8)),Qa (Qv 27) (MOp.not (Qn 26))]
def Wvb:MC:=.r0 Yxj
def Yxk:List MO:=[Qa (Qv 28) (Qf 1 false (Qn 3)),Qa (Qv 29) (Qf 6 true (Qn 6)),Qa (Qv 30) (Qf 1 false (Qn 3)),Qa (Qv 31) (Qk Leaf.b (Qn 30)),Qa none (MOp.mupd true [Qt,Qt,Qt,Leaf.s,Leaf.s,Leaf.s] (Qn 28) (Qn 29) (Qn 31))]
def Wvc:MC:=.r0 Yxk
def Yfa:List MO:=[Qa (Qv 32) (Qf 1 false (Qn 4)),Qa (Qv 33) (Qd (Qn 5)),Qa (Qv 34) (Qf 1 false (Qn 3)),Qa (Qv 35) (Qf 6 true (Qn 6)),Qa (Qv 36) (MOp.lkp false (Qp (Qq (Qr Qu 0))) true [Qt,Qt,Qt,Leaf.s,Leaf.s,Leaf.s] (Qn 34) (Qn 35)),Qa (Qv 37) (Qj 1 (Qn 32) (Qn 33)),Qa none (Ql 1 (Qn 37) (Qn 36))]
def Wek:MC:=.reg true Yfa
def Wel:MC:=.seq (.seq Wva (.seq Wvb (.cond (Qn 27) Wvc .skip))) Wek
def Wem:MC:=.rf (Qn 17) [18,19] (.seq Wu8 Wu9) (.blk 1 Wel)
def Yfb:List MO:=[Qa (Qv 38) (Qd (Qn 0)),Qa (Qv 39) (MOp.nck (Qn 38)),Qa (Qv 40) (Qg 2 (Qn 39)),Qa (Qv 41) (Qf 1 false (Qn 40)),Qa (Qv 42) (Qf 1 false (Qn 4)),Qa (Qv 43) (MOp.cpy 1 (Qn 41) (Qn 42))]
def Wen:MC:=.reg true Yfb
def Yfc:List MO:=[Qa (Qv 44) (Qf 1 false (Qn 3)),Qa (Qv 45) (Qk Leaf.b (Qn 44)),Qa (Qv 2) (Qd (Qn 45))]
def Weo:MC:=.r0 Yfc
def Wep:MC:=.seq (.seq Wu7 (.blk 0 Wem)) (.seq Wen (.seq Weo .ret))
def Yfd:MC:=.seq Wu4 (.seq Wu5 (.seq Wu6 Wep))
attribute [go_sem] Yxc Yxd Yxe Yxf Yxg Yxh Yxi Yxj Yxk Yfa Yfb Yfc
theorem W0t:KK QP 72 f72 [] Yfd [(RV.t 2)] 46:=by refine⟨func72,?_,?_,?_,?_⟩<;>kernel_rfl
theorem Yxl:Xaa QP 72=true:=by kernel_rfl
theorem Weq (h:GT QP gp [(RV.t 2)] pre R 46 Yfd args):Tri QP gp 72 args pre R:=W0t.t h
def Yxm:List MO:=[Qa (Qv 1) (MOp.box (Qn 0)),Qa (Qv 2) (Qd (Qo (Qp (Qq D.nilF))))]
def Wvd:MC:=.r0 Yxm
def Yxn:List MO:=[Qa (Qv 3) (MOp.mkF (Go.Fn.func 117) [(Qn 1)]),Qa (Qv 2) (Qd (Qn 3))]
def Wve:MC:=.r0 Yxn
def Yxo:MC:=.seq Wvd (.seq Wve .ret)
attribute [go_sem] Yxm Yxn
theorem W0u:KK QP 95 f95 [] Yxo [(RV.t 2)] 4:=by refine⟨func95,?_,?_,?_,?_⟩<;>kernel_rfl
theorem Wvf:Xaa QP 95=true:=by kernel_rfl
theorem Wer (h:GT QP gp [(RV.t 2)] pre R 4 Yxo args):Tri QP gp 95 args pre R:=W0u.t h
def Yfe:List MO:=[Qa (Qv 4) (Qf 1 false (Qn 1)),Qa (Qv 5) (MOp.nck (Qn 4)),Qa (Qv 6) (Qg 0 (Qn 5)),Qa (Qv 7) (Qg 1 (Qn 6)),Qa (Qv 8) (Qf 1 false (Qn 7)),Qa (Qv 9) (Qk Qt (Qn 8)),Qa (Qv 10) (Qd (Qo (Qp (Qq (Qr Qu 0)))))]
def Wes:MC:=.r0 Yfe
def Yff:List MO:=[Qa (Qv 11) (Qe Qt Go.BinOp.lss (Qn 10) (Qn 9))]
def Wet:MC:=.r0 Yff
def Yfg:List MO:=[Qa (Qv 12) (Qd (Qn 10)),Qa (Qv 3) (Qd (Qn 12))]
def Weu:MC:=.r0 Yfg
def Yfh:List MO:=[Qa (Qv 13) (Qd (Qn 0)),Qa (Qv 14) (Qd (Qn 3)),Qa (Qv 15) (Qf 1 false (Qn 1)),Qa (Qv 16) (Qd (Qn 3)),Qa (Qv 17) (Qh 118 [(Qn 15),(Qn 16)]),Qa (Qv 18) (MOp.callv (Qn 13) [(Qn 14),(Qn 17)]),Qa (Qv 19) (MOp.not (Qn 18))]
def Wev:MC:=.r0 Yfh
def Xy7:List MO:=[Qa (Qv 20) (Qe Qt Go.BinOp.add (Qn 10) (Qo (Qp (Qq (Qr Qu 1))))),Qa (Qv 10) (Qd (Qn 20))]
def Yoa:MC:=.r0 Xy7
def Yob:MC:=.seq Wet (.seq (.cond (Qn 11) .skip (MC.exit 0)) (.seq (.blk 1 (.seq Weu (.seq Wev (.cond (Qn 19) (MC.exit 0) .skip)))) Yoa))
def Xy8:MC:=.scope (.seq .skip (.seq Wes (.blk 0 (.loop Yob))))
attribute [go_sem] Yfe Yff Yfg Yfh Xy7
theorem Wvg:KK QP 117 f117 [] Xy8 [] 21:=by refine⟨func117,?_,?_,?_,?_⟩<;>kernel_rfl
theorem Wew:Xaa QP 117=true:=by kernel_rfl
theorem Yoc (h:GT QP gp [] pre R 21 Xy8 args):Tri QP gp 117 args pre R:=Wvg.t h
def Yfi:List MO:=[Qa (Qv 4) (MOp.alloc [(Qr Qu 0),(Qr Qu 0),(Qr Qu 0),(D.str (ByteArray.mk #[])),(D.str (ByteArray.mk #[])),(D.str (ByteArray.mk #[]))])]
def Wex:MC:=.r0 Yfi
def Yfj:List MO:=[Qa (Qv 10) (Qd (Qn 0)),Qa (Qv 11) (MOp.nck (Qn 10)),Qa (Qv 12) (Qg 0 (Qn 11)),Qa (Qv 13) (Qf 2 true (Qn 12)),Qa (Qv 14) (Qd (Qn 1)),Qa (Qv 15) (Qh 50 [(Qn 13),(Qn 14)]),Qa (Qv 9) (Qd (Qn 15)),Qa (Qv 16) (Qi (Qn 9) 0),Qa (Qv 17) (Qi (Qn 9) 1),Qa (Qv 5) (Qd (Qn 16)),Qa (Qv 6) (Qd (Qn 17))]
def Wey:MC:=.r0 Yfj
def Yfk:List MO:=[Qa (Qv 18) (Qd (Qn 5)),Qa (Qv 19) (Qk Qt (Qn 18)),Qa (Qv 20) (Qd (Qo (Qp (Qq (Qr Qu 0)))))]
def Wez:MC:=.r0 Yfk
def Yfl:List MO:=[Qa (Qv 21) (Qe Qt Go.BinOp.lss (Qn 20) (Qn 19))]
def We0:MC:=.r0 Yfl
def Yfm:List MO:=[Qa (Qv 22) (Qd (Qn 20)),Qa (Qv 23) (Qj 1 (Qn 18) (Qn 20)),Qa (Qv 24) (Qf 1 false (Qn 23)),Qa (Qv 7) (Qd (Qn 22)),Qa (Qv 8) (Qd (Qn 24))]
def We1:MC:=.r0 Yfm
def Yfn:List MO:=[Qa (Qv 25) (Qd (Qn 5)),Qa (Qv 26) (Qd (Qn 7)),Qa (Qv 27) (Qd (Qn 0)),Qa (Qv 28) (MOp.nck (Qn 27)),Qa (Qv 29) (Qg 2 (Qn 28)),Qa (Qv 30) (Qf 1 false (Qn 29)),Qa (Qv 31) (Qd (Qn 8)),Qa (Qv 32) (Qj 1 (Qn 30) (Qn 31)),Qa (Qv 33) (Qf 1 false (Qn 32)),Qa (Qv 34) (Qj 1 (Qn 25) (Qn 26)),Qa none (Ql 1 (Qn 34) (Qn 33))]
def We2:MC:=.r0 Yfn
def Xy9:List MO:=[Qa (Qv 35) (Qe Qt Go.BinOp.add (Qn 20) (Qo (Qp (Qq (Qr Qu 1))))),Qa (Qv 20) (Qd (Qn 35))]
def Yod:MC:=.r0 Xy9
def Yoe:MC:=.seq We0 (.seq (.cond (Qn 21) .skip (MC.exit 0)) (.seq (.blk 1 (.seq We1 We2)) Yod))
def Xza:List MO:=[Qa (Qv 36) (Qd (Qn 0)),Qa (Qv 37) (MOp.nck (Qn 36)),Qa (Qv 38) (Qg 0 (Qn 37)),Qa (Qv 39) (Qg 1 (Qn 38)),Qa (Qv 40) (Qf 1 false (Qn 39)),Qa (Qv 41) (Qd (Qn 1)),Qa (Qv 42) (Qj 6 (Qn 40) (Qn 41)),Qa (Qv 43) (Qg 0 (Qn 42)),Qa (Qv 44) (Qf 1 false (Qn 43)),Qa (Qv 45) (Qd (Qn 0)),Qa (Qv 46) (MOp.nck (Qn 45)),Qa (Qv 47) (Qg 0 (Qn 46)),Qa (Qv 48) (Qg 1 (Qn 47)),Qa (Qv 49) (Qf 1 false (Qn 48)),Qa (Qv 50) (Qd (Qn 1)),Qa (Qv 51) (Qj 6 (Qn 49) (Qn 50)),Qa (Qv 52) (Qg 1 (Qn 51)),Qa (Qv 53) (Qf 3 true (Qn 52)),Qa (Qv 54) (Qd (Qn 0)),Qa (Qv 55) (Qd (Qn 1)),Qa (Qv 56) (Qh 138 [(Qn 54),(Qn 55)]),Qa (Qv 57) (Qd (Qn 5)),Qa (Qv 58) (Qh 139 [(Qn 57)]),Qa (Qv 59) (MOp.build [(Qr Qu 0),(Qr Qu 0),(Qr Qu 0),(D.str (ByteArray.mk #[])),(D.str (ByteArray.mk #[])),(D.str (ByteArray.mk #[]))] [(0,(1,(Qn 44))),(1,(3,(Qn 53))),(4,(1,(Qn 56))),(5,(1,(Qn 58)))]),Qa none (Ql 6 (Qn 4) (Qn 59))]
def Yof:MC:=.reg true Xza
def Yog:MC:=.seq Wey (.seq (.seq Wez (.blk 0 (.loop Yoe))) (.seq Yof .ret))
def Xzb:MC:=.seq Wex Yog
attribute [go_sem] Yfi Yfj Yfk Yfl Yfm Yfn Xy9 Xza
theorem Wvh:KK QP 118 f118 [] Xzb [(RV.cell 4 6 true)] 60:=by refine⟨func118,?_,?_,?_,?_⟩<;>kernel_rfl
theorem We3:Xaa QP 118=true:=by kernel_rfl
theorem We4 (h:GI QP gp [(RV.cell 4 6 true)] res 60 Xzb args):Xao QP gp 118 args res:=Wvh.i We3 h
def Yfo:List MO:=[Qa (Qv 4) (Qd (Qo (Qp (Qq (D.str (ByteArray.mk #[]))))))]
def We5:MC:=.r0 Yfo
def Yfp:List MO:=[Qa (Qv 13) (Qd (Qn 0)),Qa (Qv 14) (MOp.nck (Qn 13)),Qa (Qv 15) (Qg 0 (Qn 14)),Qa (Qv 16) (Qf 2 true (Qn 15)),Qa (Qv 17) (Qd (Qn 1)),Qa (Qv 18) (Qh 49 [(Qn 16),(Qn 17)]),Qa (Qv 12) (Qd (Qn 18)),Qa (Qv 19) (Qi (Qn 12) 0),Qa (Qv 20) (Qi (Qn 12) 1),Qa (Qv 5) (Qd (Qn 19)),Qa (Qv 6) (Qd (Qn 20))]
def We6:MC:=.r0 Yfp
def Yfq:List MO:=[Qa (Qv 7) (MOp.bldN 244 5)]
def We7:MC:=.r0 Yfq
def Yfr:List MO:=[Qa (Qv 21) (Qd (Qn 5)),Qa (Qv 22) (Qk Qt (Qn 21)),Qa (Qv 23) (Qd (Qo (Qp (Qq (Qr Qu 0)))))]
def We8:MC:=.r0 Yfr
def Yfs:List MO:=[Qa (Qv 24) (Qe Qt Go.BinOp.lss (Qn 23) (Qn 22))]
def We9:MC:=.r0 Yfs
def Yft:List MO:=[Qa (Qv 25) (Qj 3 (Qn 21) (Qn 23)),Qa (Qv 26) (Qf 3 true (Qn 25)),Qa (Qv 9) (MOp.alloc [(Qr Qu 0),(Qr Qu 0),(D.str (ByteArray.mk #[]))]),Qa none (Ql 3 (Qn 9) (Qn 26))]
def Wfa:MC:=.r0 Yft
def Yfu:List MO:=[Qa (Qv 28) (Qf 3 true (Qn 9)),Qa (Qv 29) (Qh 150 [(Qn 28)]),Qa (Qv 27) (Qd (Qn 29)),Qa (Qv 30) (Qi (Qn 27) 0),Qa (Qv 31) (Qi (Qn 27) 1),Qa (Qv 10) (Qd (Qn 30)),Qa (Qv 11) (Qd (Qn 31))]
def Wfb:MC:=.r0 Yfu
def Xzc:List MO:=[Qa (Qv 32) (Qd (Qn 10)),Qa (Qv 33) (Qe Leaf.s Go.BinOp.add (Qn 32) (Qo (Qp (Qq (D.str (ByteArray.mk #[44])))))),Qa (Qv 34) (Qh 151 [(Qn 7),(Qn 33)])]
def Yoh:MC:=.r0 Xzc
def Xzd:List MO:=[Qa (Qv 35) (Qe Qt Go.BinOp.add (Qn 23) (Qo (Qp (Qq (Qr Qu 1))))),Qa (Qv 23) (Qd (Qn 35))]
def Yoi:MC:=.r0 Xzd
def Yoj:MC:=.seq (.blk 1 (.seq Wfa (.seq Wfb Yoh))) Yoi
def Xze:List MO:=[Qa (Qv 36) (Qh 152 [(Qn 7)]),Qa (Qv 4) (Qd (Qn 36))]
def Yok:MC:=.r0 Xze
def Yol:MC:=.seq (.seq We8 (.blk 0 (.loop (.seq We9 (.seq (.cond (Qn 24) .skip (MC.exit 0)) Yoj))))) (.seq Yok .ret)
def Xzf:MC:=.seq We5 (.seq We6 (.seq We7 Yol))
attribute [go_sem] Yfo Yfp Yfq Yfr Yfs Yft Yfu Xzc Xzd Xze
theorem Wvi:KK QP 138 f138 [] Xzf [(RV.t 4)] 37:=by refine⟨func138,?_,?_,?_,?_⟩<;>kernel_rfl
theorem Wfc:Xaa QP 138=true:=by kernel_rfl
theorem Wfd (h:GI QP gp [(RV.t 4)] res 37 Xzf args):Xao QP gp 138 args res:=Wvi.i Wfc h
def Yfv:List MO:=[Qa (Qv 2) (Qd (Qo (Qp (Qq (D.str (ByteArray.mk #[]))))))]
def Wfe:MC:=.r0 Yfv
def Yfw:List MO:=[Qa (Qv 3) (MOp.bldN 244 5)]
def Wff:MC:=.r0 Yfw
def Yfx:List MO:=[Qa (Qv 6) (Qd (Qn 0)),Qa (Qv 7) (Qk Qt (Qn 6)),Qa (Qv 8) (Qd (Qo (Qp (Qq (Qr Qu 0)))))]
def Wfg:MC:=.r0 Yfx
def Yfy:List MO:=[Qa (Qv 9) (Qe Qt Go.BinOp.lss (Qn 8) (Qn 7))]
def Wfh:MC:=.r0 Yfy
def Yfz:List MO:=[Qa (Qv 10) (Qj 1 (Qn 6) (Qn 8)),Qa (Qv 11) (Qf 1 false (Qn 10)),Qa (Qv 5) (Qd (Qn 11))]
def Wfi:MC:=.r0 Yfz
def Yf0:List MO:=[Qa (Qv 12) (Qd (Qn 5)),Qa (Qv 13) (Qh 31 [(Qn 12)]),Qa (Qv 14) (Qe Leaf.s Go.BinOp.add (Qn 13) (Qo (Qp (Qq (D.str (ByteArray.mk #[44])))))),Qa (Qv 15) (Qh 151 [(Qn 3),(Qn 14)])]
def Wfj:MC:=.r0 Yf0
def Xzg:List MO:=[Qa (Qv 16) (Qe Qt Go.BinOp.add (Qn 8) (Qo (Qp (Qq (Qr Qu 1))))),Qa (Qv 8) (Qd (Qn 16))]
def Yom:MC:=.r0 Xzg
def Yon:MC:=.seq Wfh (.seq (.cond (Qn 9) .skip (MC.exit 0)) (.seq (.blk 1 (.seq Wfi Wfj)) Yom))
def Xzh:List MO:=[Qa (Qv 17) (Qh 152 [(Qn 3)]),Qa (Qv 2) (Qd (Qn 17))]
def Yoo:MC:=.r0 Xzh
def Yop:MC:=.seq Wff (.seq (.seq Wfg (.blk 0 (.loop Yon))) (.seq Yoo .ret))
def Xzi:MC:=.seq Wfe Yop
attribute [go_sem] Yfv Yfw Yfx Yfy Yfz Yf0 Xzg Xzh
theorem Wvj:KK QP 139 f139 [] Xzi [(RV.t 2)] 18:=by refine⟨func139,?_,?_,?_,?_⟩<;>kernel_rfl
theorem Wfk:Xaa QP 139=true:=by kernel_rfl
theorem Wfl (h:GI QP gp [(RV.t 2)] res 18 Xzi args):Xao QP gp 139 args res:=Wvj.i Wfk h
end Go.Fw.L07
