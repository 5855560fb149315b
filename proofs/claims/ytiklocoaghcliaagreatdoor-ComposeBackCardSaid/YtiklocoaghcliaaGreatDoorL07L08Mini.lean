/- Small codes. -/
import Derived.Test.YtiklocoaghcliaaGreatDoorFd
import Derived.Test.YtiklocoaghcliaaGreatDoorProg
set_option linter.all false
namespace Go.Fw.L07
open Go Go.Fw
open Go.Proofs.Tryz renaming prog->QP
open Go.Proofs.Tryz (f25 f26 f43 f44 f51 f69 f93 f94 func25 func26 func43 func44 func51 func69 func93 func94)
open Go.Fw.MO renaming op->Qa,chk->Qb
open Go.Fw.MOp renaming mv->Qd,bin->Qe,load->Qf,fad->Qg,call->Qh,ext->Qi,iad->Qj,len->Qk,store->Ql,pick->Qm
open Go.Fw.Opd renaming t->Qn,c->Qo
open Go.Fw.V renaming one->Qp
open Go.Fw.A renaming d->Qq
open Go.Fw.D renaming int->Qr,bool->Qs
open Go.Fw.Leaf renaming i->Qt
open Go.IntKind renaming i64->Qu
open Option renaming some->Qv
variable {gp:Xaj} {args:List V} {res:V} {pre:List Ch} {R:V->List Ch->Prop}
def Yvt:List MO:=[Qa (Qv 1) (MOp.ibox (Qn 0)),Qa (Qv 2) (MOp.alloc [(Qr Qu 0),(D.sl [])]),Qa (Qv 3) (Qd (Qo (Qp (Qq (Qr Qu 0)))))]
def Wr9:MC:=.r0 Yvt
def Yvu:List MO:=[Qa (Qv 14) (Qf 2 true (Qn 1)),Qa (Qv 15) (Qh 19 [(Qn 14)]),Qa (Qv 13) (Qd (Qn 15)),Qa (Qv 16) (Qi (Qn 13) 0),Qa (Qv 17) (Qi (Qn 13) 1),Qa (Qv 4) (Qd (Qn 16)),Qa (Qv 5) (Qd (Qn 17))]
def Wsa:MC:=.r0 Yvu
def Yvv:List MO:=[Qa (Qv 18) (Qd (Qn 5)),Qa (Qv 19) (Qe Qt Go.BinOp.neq (Qn 18) (Qo (Qp (Qq (Qr Qu 0)))))]
def Wsb:MC:=.r0 Yvv
def Yvw:List MO:=[Qa (Qv 20) (MOp.build [(Qr Qu 0),(D.sl [])] []),Qa (Qv 21) (Qd (Qn 5)),Qa none (Ql 2 (Qn 2) (Qn 20)),Qa (Qv 3) (Qd (Qn 21))]
def Wsc:MC:=.r0 Yvw
def Xg2:List MO:=[Qa (Qv 22) (Qf 2 true (Qn 1)),Qa (Qv 23) (Qh 43 [(Qn 22)]),Qa (Qv 6) (Qd (Qn 23))]
def Y9s:MC:=.r0 Xg2
def Ybe:List MO:=[Qa (Qv 7) (MOp.alloc [(Qr Qu 0),(D.sl [])])]
def Y9t:MC:=.r0 Ybe
def Ybf:List MO:=[Qa (Qv 24) (Qd (Qn 6)),Qa (Qv 25) (Qh 44 [(Qn 24)]),Qa (Qv 26) (Qk Qt (Qn 25)),Qa (Qv 27) (Qd (Qo (Qp (Qq (Qr Qu 0)))))]
def Y9u:MC:=.r0 Ybf
def Ybg:List MO:=[Qa (Qv 28) (Qe Qt Go.BinOp.lss (Qn 27) (Qn 26))]
def Y9v:MC:=.r0 Ybg
def Ybh:List MO:=[Qa (Qv 29) (Qj 1 (Qn 25) (Qn 27)),Qa (Qv 30) (Qf 1 false (Qn 29)),Qa (Qv 9) (Qd (Qn 30))]
def Y9w:MC:=.r0 Ybh
def Ybi:List MO:=[Qa (Qv 31) (Qg 1 (Qn 1)),Qa (Qv 32) (Qf 1 false (Qn 31)),Qa (Qv 33) (Qd (Qn 9)),Qa (Qv 34) (Qj 6 (Qn 32) (Qn 33)),Qa (Qv 35) (Qg 0 (Qn 34)),Qa (Qv 36) (Qf 1 false (Qn 35)),Qa (Qv 37) (Qg 1 (Qn 1)),Qa (Qv 38) (Qf 1 false (Qn 37)),Qa (Qv 39) (Qd (Qn 9)),Qa (Qv 40) (Qj 6 (Qn 38) (Qn 39)),Qa (Qv 41) (Qg 1 (Qn 40)),Qa (Qv 42) (Qf 3 true (Qn 41)),Qa (Qv 43) (MOp.build [(Qr Qu 0),(Qr Qu 0),(Qr Qu 0),(D.str (ByteArray.mk #[])),(D.sl []),(D.sl [])] [(0,(1,(Qn 36))),(1,(3,(Qn 42)))]),Qa (Qv 10) (MOp.alloc [(Qr Qu 0),(Qr Qu 0),(Qr Qu 0),(D.str (ByteArray.mk #[])),(D.sl []),(D.sl [])]),Qa none (Ql 6 (Qn 10) (Qn 43))]
def Y9x:MC:=.reg true Ybi
def Ybj:List MO:=[Qa (Qv 45) (Qf 2 true (Qn 1)),Qa (Qv 46) (Qd (Qn 9)),Qa (Qv 47) (Qh 49 [(Qn 45),(Qn 46)]),Qa (Qv 44) (Qd (Qn 47)),Qa (Qv 48) (Qi (Qn 44) 0),Qa (Qv 49) (Qi (Qn 44) 1),Qa (Qv 50) (Qg 4 (Qn 10)),Qa none (Ql 1 (Qn 50) (Qn 48))]
def Y9y:MC:=.r0 Ybj
def Ybk:List MO:=[Qa (Qv 52) (Qf 2 true (Qn 1)),Qa (Qv 53) (Qd (Qn 9)),Qa (Qv 54) (Qh 50 [(Qn 52),(Qn 53)]),Qa (Qv 51) (Qd (Qn 54)),Qa (Qv 55) (Qi (Qn 51) 0),Qa (Qv 56) (Qi (Qn 51) 1),Qa (Qv 11) (Qd (Qn 55)),Qa (Qv 12) (Qd (Qn 56))]
def Y9z:MC:=.r0 Ybk
def Ybl:List MO:=[Qa (Qv 57) (Qd (Qn 6)),Qa (Qv 58) (Qd (Qn 11)),Qa (Qv 59) (Qh 51 [(Qn 57),(Qn 58)]),Qa (Qv 60) (Qg 5 (Qn 10)),Qa none (Ql 1 (Qn 60) (Qn 59))]
def Y90:MC:=.r0 Ybl
def Ybm:List MO:=[Qa (Qv 61) (Qg 1 (Qn 7)),Qa (Qv 62) (Qf 1 false (Qn 61)),Qa (Qv 63) (Qf 6 true (Qn 10)),Qa (Qv 64) (MOp.bslice 6 [(Qr Qu 0),(Qr Qu 0),(Qr Qu 0),(D.str (ByteArray.mk #[])),(D.sl []),(D.sl [])] 1 [(0,(Qn 63))]),Qa (Qv 65) (MOp.app 40 6 88 (Qn 62) (Qn 64)),Qa (Qv 66) (Qg 1 (Qn 7)),Qa none (Ql 1 (Qn 66) (Qn 65))]
def Y91:MC:=.r0 Ybm
def Y92:MC:=.seq Y9y (.seq Y9z (.seq Y90 Y91))
def Ybn:List MO:=[Qa (Qv 67) (Qe Qt Go.BinOp.add (Qn 27) (Qo (Qp (Qq (Qr Qu 1))))),Qa (Qv 27) (Qd (Qn 67))]
def Y93:MC:=.r0 Ybn
def Y94:MC:=.seq (.blk 1 (.seq Y9w (.seq Y9x Y92))) Y93
def Ybo:List MO:=[Qa (Qv 68) (Qf 2 true (Qn 7)),Qa none (Ql 2 (Qn 2) (Qn 68)),Qa (Qv 3) (Qd (Qo (Qp (Qq (Qr Qu 0)))))]
def Y95:MC:=.r0 Ybo
def Y96:MC:=.seq (.seq Y9u (.blk 0 (.loop (.seq Y9v (.seq (.cond (Qn 28) .skip (MC.exit 0)) Y94))))) (.seq Y95 .ret)
def Y97:MC:=.seq (.seq Wsa (.seq Wsb (.cond (Qn 19) (.seq Wsc .ret) .skip))) (.seq Y9s (.seq Y9t Y96))
def Ybp:MC:=.seq Wr9 Y97
attribute [go_sem] Yvt Yvu Yvv Yvw Ybe Ybf Ybg Ybh Ybi Ybj Ybk Ybl Ybm Ybn Ybo
theorem W0b:KK QP 25 f25 [1] Ybp [(RV.cell 2 2 true),(RV.t 3)] 69:=by refine⟨func25,?_,?_,?_,?_⟩<;>kernel_rfl
theorem Wsd:Xaa QP 25=true:=by kernel_rfl
theorem Wse (h:GI QP gp [(RV.cell 2 2 true),(RV.t 3)] res 69 Ybp args):Xao QP gp 25 args res:=W0b.i Wsd h
def Yvx:List MO:=[Qa (Qv 1) (MOp.ibox (Qn 0)),Qa (Qv 2) (Qd (Qo (Qp (Qq (Qs false)))))]
def Wsf:MC:=.r0 Yvx
def Yvy:List MO:=[Qa (Qv 6) (Qf 2 true (Qn 1)),Qa (Qv 7) (Qh 25 [(Qn 6)]),Qa (Qv 5) (Qd (Qn 7)),Qa (Qv 8) (Qi (Qn 5) 0),Qa (Qv 9) (Qi (Qn 5) 1),Qa (Qv 3) (MOp.alloc [(Qr Qu 0),(D.sl [])]),Qa none (Ql 2 (Qn 3) (Qn 8)),Qa (Qv 4) (Qd (Qn 9))]
def Wsg:MC:=.r0 Yvy
def Yvz:List MO:=[Qa (Qv 10) (Qd (Qn 4)),Qa (Qv 11) (Qe Qt Go.BinOp.eql (Qn 10) (Qo (Qp (Qq (Qr Qu 0))))),Qa (Qv 12) (Qd (Qn 11)),Qb 12 true (Qv 13),Qa (Qv 13) (Qf 2 true (Qn 1)),Qb 12 true (Qv 14),Qa (Qv 14) (Qf 2 true (Qn 3)),Qb 12 true (Qv 15),Qa (Qv 15) (Qh 14 [(Qn 13),(Qn 14)]),Qa (Qv 16) (Qm (Qn 12) (Qn 15) (Qo (Qp (Qq (Qs false))))),Qa (Qv 2) (Qd (Qn 16))]
def Wsh:MC:=.r0 Yvz
def Yv0:MC:=.seq Wsf (.seq Wsg (.seq Wsh .ret))
attribute [go_sem] Yvx Yvy Yvz
theorem W0c:KK QP 26 f26 [1] Yv0 [(RV.t 2)] 17:=by refine⟨func26,?_,?_,?_,?_⟩<;>kernel_rfl
theorem Wsi:Xaa QP 26=true:=by kernel_rfl
theorem Wsj (h:GI QP gp [(RV.t 2)] res 17 Yv0 args):Xao QP gp 26 args res:=W0c.i Wsi h
def Yv1:List MO:=[Qa (Qv 1) (MOp.ibox (Qn 0)),Qa (Qv 2) (Qd (Qo (Qp (Qq D.nilP))))]
def Wsk:MC:=.r0 Yv1
def Yv2:List MO:=[Qa (Qv 3) (Qf 2 true (Qn 1)),Qa (Qv 4) MOp.mkM,Qa (Qv 5) (MOp.build [(Qr Qu 0),(D.sl []),(D.raw (Go.Value.map none))] [(0,(2,(Qn 3))),(2,(1,(Qn 4)))]),Qa (Qv 6) (MOp.box (Qn 5)),Qa (Qv 2) (Qd (Qn 6))]
def Wsl:MC:=.r0 Yv2
def Yv3:MC:=.seq Wsk (.seq Wsl .ret)
attribute [go_sem] Yv1 Yv2
theorem W0d:KK QP 43 f43 [1] Yv3 [(RV.t 2)] 7:=by refine⟨func43,?_,?_,?_,?_⟩<;>kernel_rfl
theorem Wsm:Xaa QP 43=true:=by kernel_rfl
theorem Y98 (h:GT QP gp [(RV.t 2)] pre R 7 Yv3 args):Tri QP gp 43 args pre R:=W0d.t h
def Yv4:List MO:=[Qa (Qv 2) (Qd (Qo (Qp A.nil)))]
def Wsn:MC:=.r0 Yv4
def Yv5:List MO:=[Qa (Qv 3) (MOp.alloc [(D.sl [])])]
def Wso:MC:=.r0 Yv5
def Yv6:List MO:=[Qa (Qv 5) (Qd (Qn 0)),Qa (Qv 6) (Qh 69 [(Qn 5)])]
def Wsp:MC:=.r0 Yv6
def Yv7:List MO:=[Qa (Qv 4) (Qd (Qn 7))]
def Wsq:MC:=.r0 Yv7
def Yv8:List MO:=[Qa (Qv 8) (Qf 1 false (Qn 3)),Qa (Qv 9) (Qd (Qn 4)),Qa (Qv 10) (MOp.bslice 1 [(Qr Qu 0)] 1 [(0,(Qn 9))]),Qa (Qv 11) (MOp.app 3 1 8 (Qn 8) (Qn 10)),Qa none (Ql 1 (Qn 3) (Qn 11))]
def Wsr:MC:=.r0 Yv8
def Wss:MC:=.rf (Qn 6) [7] Wsq (.blk 1 Wsr)
def Yv9:List MO:=[Qa (Qv 12) (Qf 1 false (Qn 3)),Qa (Qv 2) (Qd (Qn 12))]
def Wst:MC:=.r0 Yv9
def Y99:MC:=.seq Wso (.seq (.seq Wsp (.blk 0 Wss)) (.seq Wst .ret))
def Ybq:MC:=.seq Wsn Y99
attribute [go_sem] Yv4 Yv5 Yv6 Yv7 Yv8 Yv9
theorem W0e:KK QP 44 f44 [] Ybq [(RV.t 2)] 13:=by refine⟨func44,?_,?_,?_,?_⟩<;>kernel_rfl
theorem Wsu:Xaa QP 44=true:=by kernel_rfl
theorem Waa (h:GT QP gp [(RV.t 2)] pre R 13 Ybq args):Tri QP gp 44 args pre R:=W0e.t h
def Ywa:List MO:=[Qa (Qv 4) (Qd (Qo (Qp A.nil)))]
def Wsv:MC:=.r0 Ywa
def Ywb:List MO:=[Qa (Qv 8) (Qd (Qn 1)),Qa (Qv 9) (Qk Qt (Qn 8)),Qa (Qv 10) (MOp.mkS 1 8 [(Qr Qu 0)] (Qn 9)),Qa (Qv 5) (Qd (Qn 10))]
def Wsw:MC:=.r0 Ywb
def Ywc:List MO:=[Qa (Qv 11) (Qd (Qn 5)),Qa (Qv 12) (Qd (Qn 1)),Qa (Qv 13) (MOp.cpy 1 (Qn 11) (Qn 12))]
def Wsx:MC:=.r0 Ywc
def Ywd:List MO:=[Qa (Qv 14) (Qd (Qn 5)),Qa (Qv 15) (Qk Qt (Qn 14)),Qa (Qv 16) (Qd (Qo (Qp (Qq (Qr Qu 0)))))]
def Wsy:MC:=.r0 Ywd
def Ywe:List MO:=[Qa (Qv 17) (Qe Qt Go.BinOp.lss (Qn 16) (Qn 15))]
def Wsz:MC:=.r0 Ywe
def Ywf:List MO:=[Qa (Qv 18) (Qd (Qn 16)),Qa (Qv 19) (Qj 1 (Qn 14) (Qn 16)),Qa (Qv 20) (Qf 1 false (Qn 19)),Qa (Qv 6) (Qd (Qn 18)),Qa (Qv 7) (Qd (Qn 20))]
def Ws0:MC:=.r0 Ywf
def Ywg:List MO:=[Qa (Qv 21) (Qd (Qn 5)),Qa (Qv 22) (Qd (Qn 6)),Qa (Qv 23) (Qd (Qn 0)),Qa (Qv 24) (MOp.nck (Qn 23)),Qa (Qv 25) (Qg 2 (Qn 24)),Qa (Qv 26) (Qf 1 false (Qn 25)),Qa (Qv 27) (Qd (Qn 7)),Qa (Qv 28) (MOp.lkp false (Qp (Qq (Qr Qu 0))) false [Qt] (Qn 26) (Qn 27)),Qa (Qv 29) (Qj 1 (Qn 21) (Qn 22)),Qa none (Ql 1 (Qn 29) (Qn 28))]
def Ws1:MC:=.r0 Ywg
def Ybr:List MO:=[Qa (Qv 30) (Qe Qt Go.BinOp.add (Qn 16) (Qo (Qp (Qq (Qr Qu 1))))),Qa (Qv 16) (Qd (Qn 30))]
def Wab:MC:=.r0 Ybr
def Wac:MC:=.seq Wsz (.seq (.cond (Qn 17) .skip (MC.exit 0)) (.seq (.blk 1 (.seq Ws0 Ws1)) Wab))
def Xmp:List MO:=[Qa (Qv 31) (Qd (Qn 5)),Qa (Qv 4) (Qd (Qn 31))]
def Wad:MC:=.r0 Xmp
def Wae:MC:=.seq Wsx (.seq (.seq Wsy (.blk 0 (.loop Wac))) (.seq Wad .ret))
def Ybs:MC:=.seq Wsv (.seq Wsw Wae)
attribute [go_sem] Ywa Ywb Ywc Ywd Ywe Ywf Ywg Ybr
theorem W0f:KK QP 51 f51 [] Ybs [(RV.t 4)] 32:=by refine⟨func51,?_,?_,?_,?_⟩<;>kernel_rfl
theorem Ws2:Xaa QP 51=true:=by kernel_rfl
theorem Waf (h:GT QP gp [(RV.t 4)] pre R 32 Ybs args):Tri QP gp 51 args pre R:=W0f.t h
def Ywh:List MO:=[Qa (Qv 1) (MOp.box (Qn 0)),Qa (Qv 2) (Qd (Qo (Qp (Qq D.nilF))))]
def Ws3:MC:=.r0 Ywh
def Ywi:List MO:=[Qa (Qv 3) (MOp.mkF (Go.Fn.func 93) [(Qn 1)]),Qa (Qv 2) (Qd (Qn 3))]
def Ws4:MC:=.r0 Ywi
def Ywj:MC:=.seq Ws3 (.seq Ws4 .ret)
attribute [go_sem] Ywh Ywi
theorem W0g:KK QP 69 f69 [] Ywj [(RV.t 2)] 4:=by refine⟨func69,?_,?_,?_,?_⟩<;>kernel_rfl
theorem Ws5:Xaa QP 69=true:=by kernel_rfl
theorem Wag (h:GT QP gp [(RV.t 2)] pre R 4 Ywj args):Tri QP gp 69 args pre R:=W0g.t h
def Ywk:List MO:=[Qa (Qv 10) (Qf 1 false (Qn 1)),Qa (Qv 11) (MOp.nck (Qn 10)),Qa (Qv 12) (Qg 0 (Qn 11)),Qa (Qv 13) (Qg 0 (Qn 12)),Qa (Qv 14) (Qf 1 false (Qn 13)),Qa (Qv 15) (MOp.bslO 1 [(Qr Qu 0)] 1 [(0,(Qn 14))]),Qa (Qv 3) (MOp.alloc [(D.sl [])]),Qa none (Ql 1 (Qn 3) (Qn 15))]
def Ws6:MC:=.r0 Ywk
def Ywl:List MO:=[Qa (Qv 16) (MOp.mkF (Go.Fn.func 94) [(Qn 3)]),Qa (Qv 4) (Qd (Qn 16))]
def Ws7:MC:=.r0 Ywl
def Ywm:List MO:=[Qa (Qv 17) (Qf 1 false (Qn 3)),Qa (Qv 18) (Qk Qt (Qn 17)),Qa (Qv 19) (Qe Qt Go.BinOp.gtr (Qn 18) (Qo (Qp (Qq (Qr Qu 0)))))]
def Ws8:MC:=.r0 Ywm
def Ywn:List MO:=[Qa (Qv 20) (Qf 1 false (Qn 3)),Qa (Qv 21) (Qf 1 false (Qn 3)),Qa (Qv 22) (Qk Qt (Qn 21)),Qa (Qv 23) (Qe Qt Go.BinOp.sub (Qn 22) (Qo (Qp (Qq (Qr Qu 1))))),Qa (Qv 24) (Qj 1 (Qn 20) (Qn 23)),Qa (Qv 25) (Qf 1 false (Qn 24)),Qa (Qv 5) (Qd (Qn 25))]
def Ws9:MC:=.r0 Ywn
def Ywo:List MO:=[Qa (Qv 26) (Qf 1 false (Qn 3)),Qa (Qv 27) (Qf 1 false (Qn 3)),Qa (Qv 28) (Qk Qt (Qn 27)),Qa (Qv 29) (Qe Qt Go.BinOp.sub (Qn 28) (Qo (Qp (Qq (Qr Qu 1))))),Qa (Qv 30) (MOp.slc 1 (Qn 26) none (Qv (Qn 29))),Qa none (Ql 1 (Qn 3) (Qn 30))]
def Wta:MC:=.r0 Ywo
def Ybt:List MO:=[Qa (Qv 32) (Qf 1 false (Qn 1)),Qa (Qv 33) (MOp.nck (Qn 32)),Qa (Qv 34) (Qg 2 (Qn 33)),Qa (Qv 35) (Qf 1 false (Qn 34)),Qa (Qv 36) (Qd (Qn 5)),Qa (Qv 37) (MOp.lkp true (Qp (Qq (Qr Qu 0))) false [Qt] (Qn 35) (Qn 36)),Qa (Qv 31) (Qd (Qn 37)),Qa (Qv 38) (Qi (Qn 31) 0),Qa (Qv 39) (Qi (Qn 31) 1),Qa (Qv 6) (Qd (Qn 38)),Qa (Qv 7) (Qd (Qn 39))]
def Wah:MC:=.r0 Ybt
def Ybu:List MO:=[Qa (Qv 40) (Qd (Qn 7))]
def Wai:MC:=.r0 Ybu
def Ybv:List MO:=[Qa (Qv 41) (Qf 1 false (Qn 1)),Qa (Qv 42) (MOp.nck (Qn 41)),Qa (Qv 43) (Qg 2 (Qn 42)),Qa (Qv 44) (Qf 1 false (Qn 43)),Qa (Qv 45) (Qd (Qn 5)),Qa (Qv 46) (Qf 1 false (Qn 1)),Qa (Qv 47) (MOp.nck (Qn 46)),Qa (Qv 48) (Qg 2 (Qn 47)),Qa (Qv 49) (Qf 1 false (Qn 48)),Qa (Qv 50) (Qk Leaf.b (Qn 49)),Qa none (MOp.mupd false [Qt] (Qn 44) (Qn 45) (Qn 50))]
def Waj:MC:=.reg true Ybv
def Ybw:List MO:=[Qa (Qv 51) (Qd (Qn 0)),Qa (Qv 52) (Qd (Qn 5)),Qa (Qv 53) (MOp.callv (Qn 51) [(Qn 52)]),Qa (Qv 54) (MOp.not (Qn 53))]
def Wak:MC:=.r0 Ybw
def Ybx:List MO:=[Qa (Qv 56) (Qf 1 false (Qn 1)),Qa (Qv 57) (MOp.nck (Qn 56)),Qa (Qv 58) (Qg 0 (Qn 57)),Qa (Qv 59) (Qf 2 true (Qn 58)),Qa (Qv 60) (Qd (Qn 5)),Qa (Qv 61) (Qh 50 [(Qn 59),(Qn 60)]),Qa (Qv 55) (Qd (Qn 61)),Qa (Qv 62) (Qi (Qn 55) 0),Qa (Qv 63) (Qi (Qn 55) 1),Qa (Qv 8) (Qd (Qn 62)),Qa (Qv 9) (Qd (Qn 63))]
def Wal:MC:=.r0 Ybx
def Yby:List MO:=[Qa (Qv 64) (Qd (Qn 4)),Qa (Qv 65) (Qd (Qn 8)),Qa (Qv 66) (MOp.callv (Qn 64) [(Qn 65)])]
def Wam:MC:=.r0 Yby
def Wan:MC:=.seq Waj (.seq (.seq Wak (.cond (Qn 54) (MC.exit 0) .skip)) (.seq Wal Wam))
def Wao:MC:=.seq Wta (.seq (.seq Wah (.seq Wai (.cond (Qn 40) (MC.exit 1) .skip))) Wan)
def Wap:MC:=.seq Ws7 (.seq .skip (.blk 0 (.loop (.seq (.seq Ws8 (.cond (Qn 19) .skip (MC.exit 0))) (.blk 1 (.seq Ws9 Wao))))))
def Ybz:MC:=.scope (.seq Ws6 Wap)
attribute [go_sem] Ywk Ywl Ywm Ywn Ywo Ybt Ybu Ybv Ybw Ybx Yby
theorem W0h:KK QP 93 f93 [15] Ybz [] 67:=by refine⟨func93,?_,?_,?_,?_⟩<;>kernel_rfl
theorem Wtb:Xaa QP 93=true:=by kernel_rfl
theorem Waq (h:GT QP gp [] pre R 67 Ybz args):Tri QP gp 93 args pre R:=W0h.t h
def Ywp:List MO:=[Qa (Qv 4) (Qd (Qn 0)),Qa (Qv 5) (Qk Qt (Qn 4)),Qa (Qv 6) (Qe Qt Go.BinOp.sub (Qn 5) (Qo (Qp (Qq (Qr Qu 1))))),Qa (Qv 3) (Qd (Qn 6))]
def Wtc:MC:=.r0 Ywp
def Ywq:List MO:=[Qa (Qv 7) (Qd (Qn 3)),Qa (Qv 8) (Qe Qt Go.BinOp.geq (Qn 7) (Qo (Qp (Qq (Qr Qu 0)))))]
def Wtd:MC:=.r0 Ywq
def Ywr:List MO:=[Qa (Qv 11) (Qf 1 false (Qn 1)),Qa (Qv 12) (Qd (Qn 0)),Qa (Qv 13) (Qd (Qn 3)),Qa (Qv 14) (Qj 1 (Qn 12) (Qn 13)),Qa (Qv 15) (Qf 1 false (Qn 14)),Qa (Qv 16) (MOp.bslice 1 [(Qr Qu 0)] 1 [(0,(Qn 15))]),Qa (Qv 17) (MOp.app 3 1 8 (Qn 11) (Qn 16)),Qa none (Ql 1 (Qn 1) (Qn 17))]
def Wte:MC:=.reg true Ywr
def Yws:List MO:=[Qa (Qv 9) (Qd (Qn 3)),Qa (Qv 10) (Qe Qt Go.BinOp.sub (Qn 9) (Qo (Qp (Qq (Qr Qu 1))))),Qa (Qv 3) (Qd (Qn 10))]
def Wtf:MC:=.r0 Yws
def Yb0:MC:=.seq Wtc (.blk 0 (.loop (.seq (.seq Wtd (.cond (Qn 8) .skip (MC.exit 0))) (.seq (.blk 1 Wte) Wtf))))
attribute [go_sem] Ywp Ywq Ywr Yws
theorem W0i:KK QP 94 f94 [] Yb0 [] 18:=by refine⟨func94,?_,?_,?_,?_⟩<;>kernel_rfl
theorem Wtg:Xaa QP 94=true:=by kernel_rfl
theorem War (h:GT QP gp [] pre R 18 Yb0 args):Tri QP gp 94 args pre R:=W0i.t h
end Go.Fw.L07
