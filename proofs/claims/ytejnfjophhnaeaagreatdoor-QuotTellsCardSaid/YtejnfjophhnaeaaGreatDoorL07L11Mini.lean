/- Small codes. -/
import Derived.Test.YtejnfjophhnaeaaGreatDoorFd
import Derived.Test.YtejnfjophhnaeaaGreatDoorProg
set_option linter.all false
namespace Go.Fw.L07
open Go Go.Fw
open Go.Proofs.Tryz renaming prog->QP
open Go.Proofs.Tryz (f113 f24 f25 f26 f27 f28 f30 f31 f54 f55 f56 f58 f88 f89 f9 func113 func24 func25 func26 func27 func28 func30 func31 func54 func55 func56 func58 func88 func89 func9)
open Go.Fw.MO renaming op->Qa,chk->Qb,opx->Qc
open Go.Fw.MOp renaming mv->Qd,bin->Qe,load->Qf,fad->Qg,call->Qh,ext->Qi,iad->Qj,len->Qk,store->Ql,pick->Qm
open Go.Fw.Opd renaming t->Qn,c->Qo
open Go.Fw.V renaming one->Qp
open Go.Fw.A renaming d->Qq
open Go.Fw.D renaming int->Qr,bool->Qs
open Go.Fw.Leaf renaming i->Qt
open Go.IntKind renaming i64->Qu
open Option renaming some->Qv
variable {gp:Xal} {args:List V} {res:V} {pre:List Ch} {R:V->List Ch->Prop}
def W0s:List MO:=[Qa (Qv 1) (MOp.box (Qn 0)),Qa (Qv 2) (Qd (Qo (Qp (Qq (Qs false)))))]
def W6g:MC:=.r0 W0s
def W0t:List MO:=[Qa (Qv 12) (Qh 24 []),Qa (Qv 3) (Qd (Qn 12))]
def W6h:MC:=.r0 W0t
def W0u:List MO:=[Qa (Qv 13) (Qf 2 true (Qn 1)),Qa (Qv 14) (Qh 13 [(Qn 13),(Qo (Qp (Qq (Qr Qu 24))))]),Qa none (Ql 2 (Qn 1) (Qn 14))]
def W6i:MC:=.r0 W0u
def W0v:List MO:=[Qa (Qv 16) (Qf 2 true (Qn 1)),Qa (Qv 17) (Qh 25 [(Qn 16)]),Qa (Qv 15) (Qd (Qn 17)),Qa (Qv 18) (Qi (Qn 15) 0),Qa (Qv 19) (Qi (Qn 15) 1),Qa (Qv 4) (MOp.alloc [(Qr Qu 0),(D.sl [])]),Qa none (Ql 2 (Qn 4) (Qn 18)),Qa (Qv 5) (Qd (Qn 19))]
def W6j:MC:=.r0 W0v
def W0w:List MO:=[Qa (Qv 21) (Qf 2 true (Qn 1)),Qa (Qv 22) (Qh 26 [(Qn 21)]),Qa (Qv 20) (Qd (Qn 22)),Qa (Qv 23) (Qi (Qn 20) 0),Qa (Qv 24) (Qi (Qn 20) 1),Qa (Qv 6) (MOp.alloc [(Qr Qu 0),(D.sl [])]),Qa none (Ql 2 (Qn 6) (Qn 23)),Qa (Qv 7) (Qd (Qn 24))]
def W6k:MC:=.r0 W0w
def W0x:List MO:=[Qa (Qv 26) (Qf 2 true (Qn 1)),Qa (Qv 27) (Qh 27 [(Qn 26)]),Qa (Qv 25) (Qd (Qn 27)),Qa (Qv 28) (Qi (Qn 25) 0),Qa (Qv 29) (Qi (Qn 25) 1),Qa (Qv 8) (Qd (Qn 28)),Qa (Qv 9) (Qd (Qn 29))]
def W6l:MC:=.r0 W0x
def W0y:List MO:=[Qa (Qv 31) (Qf 2 true (Qn 1)),Qa (Qv 32) (Qh 28 [(Qn 31)]),Qa (Qv 30) (Qd (Qn 32)),Qa (Qv 33) (Qi (Qn 30) 0),Qa (Qv 34) (Qi (Qn 30) 1),Qa (Qv 10) (Qd (Qn 33)),Qa (Qv 11) (Qd (Qn 34))]
def W6m:MC:=.r0 W0y
def W0z:List MO:=[Qa (Qv 35) (Qd (Qn 3)),Qa (Qv 36) (Qd (Qn 35)),Qb 36 true (Qv 37),Qa (Qv 37) (Qf 2 true (Qn 4)),Qb 36 true (Qv 38),Qa (Qv 38) (Qf 2 true (Qn 6)),Qb 36 true (Qv 39),Qc (Qv 39) (Qh 29 [(Qn 37),(Qn 38)]),Qa (Qv 40) (Qm (Qn 36) (Qn 39) (Qo (Qp (Qq (Qs false))))),Qa (Qv 41) (Qd (Qn 40)),Qb 41 true (Qv 42),Qa (Qv 42) (Qd (Qn 5)),Qb 41 true (Qv 43),Qa (Qv 43) (Qd (Qn 7)),Qb 41 true (Qv 44),Qa (Qv 44) (Qe Qt Go.BinOp.eql (Qn 42) (Qn 43)),Qa (Qv 45) (Qm (Qn 41) (Qn 44) (Qo (Qp (Qq (Qs false))))),Qa (Qv 46) (Qd (Qn 45)),Qb 46 true (Qv 47),Qa (Qv 47) (Qf 2 true (Qn 1)),Qb 46 true (Qv 48),Qa (Qv 48) (Qh 30 [(Qn 47)]),Qb 46 true (Qv 49),Qa (Qv 49) (Qf 2 true (Qn 1)),Qb 46 true (Qv 50),Qc (Qv 50) (Qh 31 [(Qn 49)]),Qb 46 true (Qv 51),Qa (Qv 51) (Qe Leaf.b Go.BinOp.eql (Qn 48) (Qn 50)),Qa (Qv 52) (Qm (Qn 46) (Qn 51) (Qo (Qp (Qq (Qs false))))),Qa (Qv 53) (Qd (Qn 52)),Qb 53 true (Qv 54),Qa (Qv 54) (Qd (Qn 8)),Qb 53 true (Qv 55),Qa (Qv 55) (Qd (Qn 10)),Qb 53 true (Qv 56),Qc (Qv 56) (Qh 20 [(Qn 54),(Qn 55)]),Qa (Qv 57) (Qm (Qn 53) (Qn 56) (Qo (Qp (Qq (Qs false))))),Qa (Qv 58) (Qd (Qn 57)),Qb 58 true (Qv 59),Qa (Qv 59) (Qd (Qn 9)),Qb 58 true (Qv 60),Qa (Qv 60) (Qd (Qn 11)),Qb 58 true (Qv 61),Qa (Qv 61) (Qe Qt Go.BinOp.eql (Qn 59) (Qn 60)),Qa (Qv 62) (Qm (Qn 58) (Qn 61) (Qo (Qp (Qq (Qs false))))),Qa (Qv 2) (Qd (Qn 62))]
def W6n:MC:=.reg true W0z
def W00:MC:=.seq W6k (.seq W6l (.seq W6m (.seq W6n .ret)))
def W01:MC:=.seq W6h (.seq W6i (.seq W6j W00))
def Y0i:MC:=.seq W6g W01
attribute [go_sem] W0s W0t W0u W0v W0w W0x W0y W0z
theorem W74:KK QP 9 f9 [] Y0i [(RV.t 2)] 63:=by refine⟨func9,?_,?_,?_,?_⟩<;>kernel_rfl
theorem W6o:Xaa QP 9=true:=by kernel_rfl
theorem W6p (h:GI QP gp [(RV.t 2)] res 63 Y0i args):Xak QP gp 9 args res:=W74.i W6o h
def Y0j:List MO:=[Qa (Qv 0) (Qd (Qo (Qp (Qq (Qs false)))))]
def W02:MC:=.r0 Y0j
def Y0k:List MO:=[Qa (Qv 9) (MOp.build [(Qr Qu 0),(Qr Qu 0),(D.str (ByteArray.mk #[]))] [(0,(1,(Qo (Qp (Qq (Qr Qu 2)))))),(1,(1,(Qo (Qp (Qq (Qr Qu 5))))))]),Qa (Qv 10) (MOp.build [(Qr Qu 0),(Qr Qu 0),(Qr Qu 0),(D.str (ByteArray.mk #[])),(D.sl []),(D.sl [])] [(1,(3,(Qn 9)))]),Qa (Qv 1) (MOp.alloc [(Qr Qu 0),(Qr Qu 0),(Qr Qu 0),(D.str (ByteArray.mk #[])),(D.sl []),(D.sl [])]),Qa none (Ql 6 (Qn 1) (Qn 10))]
def W03:MC:=.r0 Y0k
def Y0l:List MO:=[Qa (Qv 11) (Qf 6 true (Qn 1)),Qa (Qv 12) (MOp.bslice 1 [(Qr Qu 0)] 2 [(0,(Qo (Qp (Qq (Qr Qu 0))))),(1,(Qo (Qp (Qq (Qr Qu 2)))))]),Qa (Qv 13) (MOp.build [(Qr Qu 0),(Qr Qu 0),(Qr Qu 0),(D.str (ByteArray.mk #[])),(D.sl []),(D.sl [])] [(0,(1,(Qo (Qp (Qq (Qr Qu 1)))))),(5,(1,(Qn 12)))]),Qa (Qv 14) (Qf 6 true (Qn 1)),Qa (Qv 15) (MOp.build [(Qr Qu 0),(Qr Qu 0),(Qr Qu 0),(D.str (ByteArray.mk #[])),(D.sl []),(D.sl [])] []),Qa (Qv 16) (MOp.bslice 6 [(Qr Qu 0),(Qr Qu 0),(Qr Qu 0),(D.str (ByteArray.mk #[])),(D.sl []),(D.sl [])] 4 [(0,(Qn 11)),(1,(Qn 13)),(2,(Qn 14)),(3,(Qn 15))]),Qa (Qv 17) (MOp.build [(Qr Qu 0),(D.sl [])] [(0,(1,(Qo (Qp (Qq (Qr Qu 1)))))),(1,(1,(Qn 16)))]),Qa (Qv 2) (MOp.alloc [(Qr Qu 0),(D.sl [])]),Qa none (Ql 2 (Qn 2) (Qn 17))]
def W04:MC:=.r0 Y0l
def Y0m:List MO:=[Qa (Qv 19) (Qf 2 true (Qn 2)),Qa (Qv 20) (Qh 25 [(Qn 19)]),Qa (Qv 18) (Qd (Qn 20)),Qa (Qv 21) (Qi (Qn 18) 0),Qa (Qv 22) (Qi (Qn 18) 1),Qa (Qv 3) (MOp.alloc [(Qr Qu 0),(D.sl [])]),Qa none (Ql 2 (Qn 3) (Qn 21)),Qa (Qv 4) (Qd (Qn 22))]
def W05:MC:=.r0 Y0m
def Y0n:List MO:=[Qa (Qv 24) (Qf 2 true (Qn 2)),Qa (Qv 25) (Qh 27 [(Qn 24)]),Qa (Qv 23) (Qd (Qn 25)),Qa (Qv 26) (Qi (Qn 23) 0),Qa (Qv 27) (Qi (Qn 23) 1),Qa (Qv 5) (Qd (Qn 26)),Qa (Qv 6) (Qd (Qn 27))]
def W06:MC:=.r0 Y0n
def Y0o:List MO:=[Qa (Qv 29) (MOp.build [(Qr Qu 0),(D.sl [])] []),Qa (Qv 30) (Qh 25 [(Qn 29)]),Qa (Qv 28) (Qd (Qn 30)),Qa (Qv 31) (Qi (Qn 28) 0),Qa (Qv 32) (Qi (Qn 28) 1),Qa (Qv 7) (MOp.alloc [(Qr Qu 0),(D.sl [])]),Qa none (Ql 2 (Qn 7) (Qn 31)),Qa (Qv 8) (Qd (Qn 32))]
def W07:MC:=.r0 Y0o
def Y0p:List MO:=[Qa (Qv 33) (Qd (Qn 4)),Qa (Qv 34) (Qe Qt Go.BinOp.eql (Qn 33) (Qo (Qp (Qq (Qr Qu 0))))),Qa (Qv 35) (Qd (Qn 34)),Qb 35 true (Qv 36),Qa (Qv 36) (Qf 2 true (Qn 3)),Qb 35 true (Qv 37),Qa (Qv 37) (MOp.bslice 1 [(Qr Qu 0)] 2 [(0,(Qo (Qp (Qq (Qr Qu 1))))),(1,(Qo (Qp (Qq (Qr Qu 1)))))]),Qb 35 true (Qv 38),Qa (Qv 38) (MOp.build [(Qr Qu 0),(Qr Qu 0),(Qr Qu 0),(D.str (ByteArray.mk #[])),(D.sl []),(D.sl [])] [(0,(1,(Qo (Qp (Qq (Qr Qu 1)))))),(5,(1,(Qn 37)))]),Qb 35 true (Qv 39),Qa (Qv 39) (Qf 6 true (Qn 1)),Qb 35 true (Qv 40),Qa (Qv 40) (MOp.bslice 6 [(Qr Qu 0),(Qr Qu 0),(Qr Qu 0),(D.str (ByteArray.mk #[])),(D.sl []),(D.sl [])] 2 [(0,(Qn 38)),(1,(Qn 39))]),Qb 35 true (Qv 41),Qa (Qv 41) (MOp.build [(Qr Qu 0),(D.sl [])] [(1,(1,(Qn 40)))]),Qb 35 true (Qv 42),Qa (Qv 42) (Qh 53 [(Qn 36),(Qn 41)]),Qa (Qv 43) (Qm (Qn 35) (Qn 42) (Qo (Qp (Qq (Qs false))))),Qa (Qv 44) (Qd (Qn 43)),Qb 44 true (Qv 45),Qa (Qv 45) (Qd (Qn 6)),Qb 44 true (Qv 46),Qa (Qv 46) (Qe Qt Go.BinOp.eql (Qn 45) (Qo (Qp (Qq (Qr Qu 0))))),Qa (Qv 47) (Qm (Qn 44) (Qn 46) (Qo (Qp (Qq (Qs false))))),Qa (Qv 48) (Qd (Qn 47)),Qb 48 true (Qv 49),Qa (Qv 49) (Qd (Qn 5)),Qb 48 true (Qv 50),Qa (Qv 50) (MOp.bslice 1 [(Qr Qu 0)] 4 [(0,(Qo (Qp (Qq (Qr Qu 1))))),(1,(Qo (Qp (Qq (Qr Qu 0))))),(2,(Qo (Qp (Qq (Qr Qu 1))))),(3,(Qo (Qp (Qq (Qr Qu (-1))))))]),Qb 48 true (Qv 51),Qa (Qv 51) (Qh 20 [(Qn 49),(Qn 50)]),Qa (Qv 52) (Qm (Qn 48) (Qn 51) (Qo (Qp (Qq (Qs false))))),Qa (Qv 53) (Qd (Qn 52)),Qb 53 true (Qv 54),Qa (Qv 54) (Qd (Qn 8)),Qb 53 true (Qv 55),Qa (Qv 55) (Qe Qt Go.BinOp.eql (Qn 54) (Qo (Qp (Qq (Qr Qu 70))))),Qa (Qv 56) (Qm (Qn 53) (Qn 55) (Qo (Qp (Qq (Qs false))))),Qa (Qv 57) (Qd (Qn 56)),Qb 57 true (Qv 58),Qa (Qv 58) (Qf 2 true (Qn 3)),Qb 57 true (Qv 59),Qa (Qv 59) (Qh 30 [(Qn 58)]),Qa (Qv 60) (Qm (Qn 57) (Qn 59) (Qo (Qp (Qq (Qs false))))),Qa (Qv 61) (Qd (Qn 60)),Qb 61 true (Qv 62),Qa (Qv 62) (Qf 2 true (Qn 2)),Qb 61 true (Qv 63),Qa (Qv 63) (Qh 30 [(Qn 62)]),Qb 61 true (Qv 64),Qa (Qv 64) (MOp.not (Qn 63)),Qa (Qv 65) (Qm (Qn 61) (Qn 64) (Qo (Qp (Qq (Qs false))))),Qa (Qv 0) (Qd (Qn 65))]
def W08:MC:=.r0 Y0p
def Wlf:MC:=.seq W05 (.seq W06 (.seq W07 (.seq W08 .ret)))
def Yip:MC:=.seq W02 (.seq W03 (.seq W04 Wlf))
attribute [go_sem] Y0j Y0k Y0l Y0m Y0n Y0o Y0p
theorem W6q:KK QP 24 f24 [] Yip [(RV.t 0)] 66:=by refine⟨func24,?_,?_,?_,?_⟩<;>kernel_rfl
theorem W09:Xaa QP 24=true:=by kernel_rfl
theorem W1a (h:GI QP gp [(RV.t 0)] res 66 Yip args):Xak QP gp 24 args res:=W6q.i W09 h
def Y0q:List MO:=[Qa (Qv 1) (MOp.ibox (Qn 0)),Qa (Qv 2) (MOp.alloc [(Qr Qu 0),(D.sl [])]),Qa (Qv 3) (Qd (Qo (Qp (Qq (Qr Qu 0)))))]
def W1b:MC:=.r0 Y0q
def Y0r:List MO:=[Qa (Qv 7) (Qf 2 true (Qn 1)),Qa (Qv 8) (Qh 54 [(Qn 7)]),Qa (Qv 6) (Qd (Qn 8)),Qa (Qv 9) (Qi (Qn 6) 0),Qa (Qv 10) (Qi (Qn 6) 1),Qa (Qv 4) (Qd (Qn 9)),Qa (Qv 5) (Qd (Qn 10))]
def W1c:MC:=.r0 Y0r
def Y0s:List MO:=[Qa (Qv 11) (Qd (Qn 5)),Qa (Qv 12) (MOp.nilq NK.ifc true (Qn 11))]
def W1d:MC:=.r0 Y0s
def Y0t:List MO:=[Qa (Qv 13) (MOp.build [(Qr Qu 0),(D.sl [])] []),Qa (Qv 14) (Qd (Qn 5)),Qa (Qv 15) (Qh 55 [(Qn 14)]),Qa none (Ql 2 (Qn 2) (Qn 13)),Qa (Qv 3) (Qd (Qn 15))]
def W1e:MC:=.r0 Y0t
def Y0u:List MO:=[Qa (Qv 16) (Qd (Qn 4)),Qa (Qv 17) (Qh 56 [(Qn 16)]),Qa (Qv 18) (Qh 33 [(Qn 17)]),Qa (Qv 19) (Qi (Qn 18) 0),Qa (Qv 20) (Qi (Qn 18) 1),Qa none (Ql 2 (Qn 2) (Qn 19)),Qa (Qv 3) (Qd (Qn 20))]
def W1f:MC:=.r0 Y0u
def Wlg:MC:=.seq W1c (.seq (.seq W1d (.cond (Qn 12) (.seq W1e .ret) .skip)) (.seq W1f .ret))
def Yiq:MC:=.seq W1b Wlg
attribute [go_sem] Y0q Y0r Y0s Y0t Y0u
theorem W6r:KK QP 25 f25 [1] Yiq [(RV.cell 2 2 true),(RV.t 3)] 21:=by refine⟨func25,?_,?_,?_,?_⟩<;>kernel_rfl
theorem W1g:Xaa QP 25=true:=by kernel_rfl
theorem W1h (h:GI QP gp [(RV.cell 2 2 true),(RV.t 3)] res 21 Yiq args):Xak QP gp 25 args res:=W6r.i W1g h
def Y0v:List MO:=[Qa (Qv 1) (MOp.ibox (Qn 0)),Qa (Qv 2) (MOp.alloc [(Qr Qu 0),(D.sl [])]),Qa (Qv 3) (Qd (Qo (Qp (Qq (Qr Qu 0)))))]
def W1i:MC:=.r0 Y0v
def Y0w:List MO:=[Qa (Qv 7) (Qf 2 true (Qn 1)),Qa (Qv 8) (Qh 15 [(Qn 7)]),Qa (Qv 6) (Qd (Qn 8)),Qa (Qv 9) (Qi (Qn 6) 0),Qa (Qv 10) (Qi (Qn 6) 1),Qa (Qv 4) (Qd (Qn 9)),Qa (Qv 5) (Qd (Qn 10))]
def W1j:MC:=.r0 Y0w
def Y0x:List MO:=[Qa (Qv 11) (Qd (Qn 5)),Qa (Qv 12) (Qe Qt Go.BinOp.neq (Qn 11) (Qo (Qp (Qq (Qr Qu 0)))))]
def W1k:MC:=.r0 Y0x
def Y0y:List MO:=[Qa (Qv 13) (MOp.build [(Qr Qu 0),(D.sl [])] []),Qa (Qv 14) (Qd (Qn 5)),Qa none (Ql 2 (Qn 2) (Qn 13)),Qa (Qv 3) (Qd (Qn 14))]
def W1l:MC:=.r0 Y0y
def Y0z:List MO:=[Qa (Qv 15) (Qf 2 true (Qn 1)),Qa (Qv 16) (Qd (Qn 4)),Qa (Qv 17) (Qh 58 [(Qn 15),(Qn 16)]),Qa (Qv 18) (Qh 57 [(Qn 17)]),Qa (Qv 19) (Qi (Qn 18) 0),Qa (Qv 20) (Qi (Qn 18) 1),Qa none (Ql 2 (Qn 2) (Qn 19)),Qa (Qv 3) (Qd (Qn 20))]
def W1m:MC:=.r0 Y0z
def Wlh:MC:=.seq W1j (.seq (.seq W1k (.cond (Qn 12) (.seq W1l .ret) .skip)) (.seq W1m .ret))
def Yir:MC:=.seq W1i Wlh
attribute [go_sem] Y0v Y0w Y0x Y0y Y0z
theorem W6s:KK QP 26 f26 [1] Yir [(RV.cell 2 2 true),(RV.t 3)] 21:=by refine⟨func26,?_,?_,?_,?_⟩<;>kernel_rfl
theorem W1n:Xaa QP 26=true:=by kernel_rfl
theorem W1o (h:GI QP gp [(RV.cell 2 2 true),(RV.t 3)] res 21 Yir args):Xak QP gp 26 args res:=W6s.i W1n h
def Xd3:List MO:=[Qa (Qv 1) (MOp.ibox (Qn 0)),Qa (Qv 2) (Qd (Qo (Qp A.nil))),Qa (Qv 3) (Qd (Qo (Qp (Qq (Qr Qu 0)))))]
def W1p:MC:=.r0 Xd3
def Xd4:List MO:=[Qa (Qv 18) (Qf 2 true (Qn 1)),Qa (Qv 19) (Qh 54 [(Qn 18)]),Qa (Qv 17) (Qd (Qn 19)),Qa (Qv 20) (Qi (Qn 17) 0),Qa (Qv 21) (Qi (Qn 17) 1),Qa (Qv 4) (Qd (Qn 20)),Qa (Qv 5) (Qd (Qn 21))]
def W1q:MC:=.r0 Xd4
def Xd5:List MO:=[Qa (Qv 22) (Qd (Qn 5)),Qa (Qv 23) (MOp.nilq NK.ifc true (Qn 22))]
def W1r:MC:=.r0 Xd5
def Xd6:List MO:=[Qa (Qv 24) (Qd (Qn 5)),Qa (Qv 25) (Qh 55 [(Qn 24)]),Qa (Qv 2) (Qd (Qo (Qp A.nil))),Qa (Qv 3) (Qd (Qn 25))]
def W1s:MC:=.r0 Xd6
def Xd7:List MO:=[Qa (Qv 26) (Qd (Qn 4)),Qa (Qv 27) (MOp.mkMv (Go.Fn.func 56) (Qn 26)),Qa (Qv 6) (Qd (Qn 27))]
def W1t:MC:=.r0 Xd7
def Xce:List MO:=[Qa (Qv 29) (Qd (Qn 6)),Qa (Qv 30) (MOp.callv (Qn 29) []),Qa (Qv 31) (Qh 32 [(Qn 30)]),Qa (Qv 28) (Qd (Qn 31)),Qa (Qv 32) (Qi (Qn 28) 0),Qa (Qv 33) (Qi (Qn 28) 1),Qa (Qv 7) (Qd (Qn 32)),Qa (Qv 8) (Qd (Qn 33))]
def Wli:MC:=.r0 Xce
def Xcf:List MO:=[Qa (Qv 34) MOp.mkM,Qa (Qv 9) (Qd (Qn 34))]
def Wlj:MC:=.r0 Xcf
def Xcg:List MO:=[Qa (Qv 35) (Qd (Qn 7)),Qa (Qv 36) (Qk Qt (Qn 35)),Qa (Qv 37) (Qd (Qo (Qp (Qq (Qr Qu 0)))))]
def Wlk:MC:=.r0 Xcg
def Xch:List MO:=[Qa (Qv 38) (Qe Qt Go.BinOp.lss (Qn 37) (Qn 36))]
def Wll:MC:=.r0 Xch
def Xci:List MO:=[Qa (Qv 39) (Qd (Qn 37)),Qa (Qv 40) (Qj 1 (Qn 35) (Qn 37)),Qa (Qv 41) (Qf 1 false (Qn 40)),Qa (Qv 10) (Qd (Qn 39)),Qa (Qv 11) (Qd (Qn 41))]
def Wlm:MC:=.r0 Xci
def Xcj:List MO:=[Qa (Qv 42) (Qd (Qn 9)),Qa (Qv 43) (Qd (Qn 11)),Qa (Qv 44) (Qd (Qn 10)),Qa none (MOp.mupd false [Qt] (Qn 42) (Qn 43) (Qn 44))]
def Wln:MC:=.r0 Xcj
def Xck:List MO:=[Qa (Qv 45) (Qe Qt Go.BinOp.add (Qn 37) (Qo (Qp (Qq (Qr Qu 1))))),Qa (Qv 37) (Qd (Qn 45))]
def Wlo:MC:=.r0 Xck
def Wlp:MC:=.seq Wll (.seq (.cond (Qn 38) .skip (MC.exit 0)) (.seq (.blk 1 (.seq Wlm Wln)) Wlo))
def Xcl:List MO:=[Qa (Qv 12) (Qd (Qo (Qp A.nil)))]
def Wlq:MC:=.r0 Xcl
def Xcm:List MO:=[Qa (Qv 46) (Qd (Qn 4)),Qa (Qv 47) (MOp.nck (Qn 46)),Qa (Qv 48) (Qg 2 (Qn 47)),Qa (Qv 49) (Qf 1 false (Qn 48)),Qa (Qv 50) (Qk Qt (Qn 49)),Qa (Qv 51) (Qd (Qo (Qp (Qq (Qr Qu 0)))))]
def Wlr:MC:=.r0 Xcm
def Xb4:List MO:=[Qa (Qv 52) (Qe Qt Go.BinOp.lss (Qn 51) (Qn 50))]
def Wls:MC:=.r0 Xb4
def Xcn:List MO:=[Qa (Qv 53) (Qj 1 (Qn 49) (Qn 51)),Qa (Qv 54) (Qf 1 false (Qn 53)),Qa (Qv 14) (Qd (Qn 54))]
def Wlt:MC:=.r0 Xcn
def Xco:List MO:=[Qa (Qv 56) (Qd (Qn 9)),Qa (Qv 57) (Qd (Qn 14)),Qa (Qv 58) (MOp.lkp true (Qp (Qq (Qr Qu 0))) false [Qt] (Qn 56) (Qn 57)),Qa (Qv 55) (Qd (Qn 58)),Qa (Qv 59) (Qi (Qn 55) 0),Qa (Qv 60) (Qi (Qn 55) 1),Qa (Qv 15) (Qd (Qn 59)),Qa (Qv 16) (Qd (Qn 60))]
def Wlu:MC:=.r0 Xco
def Xcp:List MO:=[Qa (Qv 61) (Qd (Qn 16)),Qa (Qv 62) (MOp.not (Qn 61))]
def Wlv:MC:=.r0 Xcp
def Xcq:List MO:=[Qa (Qv 15) (Qd (Qo (Qp (Qq (Qr Qu (-1))))))]
def Wlw:MC:=.r0 Xcq
def Xcr:List MO:=[Qa (Qv 63) (Qd (Qn 12)),Qa (Qv 64) (Qd (Qn 15)),Qa (Qv 65) (MOp.bslice 1 [(Qr Qu 0)] 1 [(0,(Qn 64))]),Qa (Qv 66) (MOp.app 3 1 8 (Qn 63) (Qn 65)),Qa (Qv 12) (Qd (Qn 66))]
def Wlx:MC:=.r0 Xcr
def Wly:MC:=.seq Wlu (.seq (.seq Wlv (.cond (Qn 62) Wlw .skip)) Wlx)
def Xcs:List MO:=[Qa (Qv 67) (Qe Qt Go.BinOp.add (Qn 51) (Qo (Qp (Qq (Qr Qu 1))))),Qa (Qv 51) (Qd (Qn 67))]
def Wlz:MC:=.r0 Xcs
def Wl0:MC:=.seq Wls (.seq (.cond (Qn 52) .skip (MC.exit 2)) (.seq (.blk 3 (.seq Wlt Wly)) Wlz))
def Xct:List MO:=[Qa (Qv 68) (Qd (Qn 12)),Qa (Qv 69) (Qd (Qn 8)),Qa (Qv 2) (Qd (Qn 68)),Qa (Qv 3) (Qd (Qn 69))]
def Wl1:MC:=.r0 Xct
def Wl2:MC:=.seq Wlq (.seq (.seq Wlr (.blk 2 (.loop Wl0))) (.seq Wl1 .ret))
def Wl3:MC:=.seq Wlj (.seq (.seq Wlk (.blk 0 (.loop Wlp))) Wl2)
def Wl4:MC:=.seq (.seq W1r (.cond (Qn 23) (.seq W1s .ret) .skip)) (.seq W1t (.seq Wli Wl3))
def Yis:MC:=.seq W1p (.seq W1q Wl4)
theorem W6t:KK QP 27 f27 [1] Yis [(RV.t 2),(RV.t 3)] 70:=by refine⟨func27,?_,?_,?_,?_⟩<;>kernel_rfl
theorem W1u:Xaa QP 27=true:=by kernel_rfl
theorem W1v (h:GI QP gp [(RV.t 2),(RV.t 3)] res 70 Yis args):Xak QP gp 27 args res:=W6t.i W1u h
def Y00:List MO:=[Qa (Qv 1) (MOp.ibox (Qn 0)),Qa (Qv 2) (Qd (Qo (Qp A.nil))),Qa (Qv 3) (Qd (Qo (Qp (Qq (Qr Qu 0)))))]
def W1w:MC:=.r0 Y00
def Y01:List MO:=[Qa (Qv 11) (Qf 2 true (Qn 1)),Qa (Qv 12) (Qh 15 [(Qn 11)]),Qa (Qv 10) (Qd (Qn 12)),Qa (Qv 13) (Qi (Qn 10) 0),Qa (Qv 14) (Qi (Qn 10) 1),Qa (Qv 4) (Qd (Qn 13)),Qa (Qv 5) (Qd (Qn 14))]
def W1x:MC:=.r0 Y01
def Y02:List MO:=[Qa (Qv 15) (Qd (Qn 5)),Qa (Qv 16) (Qe Qt Go.BinOp.neq (Qn 15) (Qo (Qp (Qq (Qr Qu 0)))))]
def W1y:MC:=.r0 Y02
def Y03:List MO:=[Qa (Qv 17) (Qd (Qn 5)),Qa (Qv 2) (Qd (Qo (Qp A.nil))),Qa (Qv 3) (Qd (Qn 17))]
def W1z:MC:=.r0 Y03
def Y04:List MO:=[Qa (Qv 19) (Qf 2 true (Qn 1)),Qa (Qv 20) (Qd (Qn 4)),Qa (Qv 21) (Qh 58 [(Qn 19),(Qn 20)]),Qa (Qv 22) (Qh 59 [(Qn 21)]),Qa (Qv 18) (Qd (Qn 22)),Qa (Qv 23) (Qi (Qn 18) 0),Qa (Qv 24) (Qi (Qn 18) 1),Qa (Qv 6) (Qd (Qn 23)),Qa (Qv 7) (Qd (Qn 24))]
def W10:MC:=.r0 Y04
def Yit:List MO:=[Qa (Qv 8) (Qd (Qo (Qp A.nil)))]
def Wl5:MC:=.r0 Yit
def Yiu:List MO:=[Qa (Qv 9) (Qd (Qo (Qp (Qq (Qr Qu 0)))))]
def Wl6:MC:=.r0 Yiu
def Yiv:List MO:=[Qa (Qv 25) (Qd (Qn 9)),Qa (Qv 26) (Qd (Qn 4)),Qa (Qv 27) (Qk Qt (Qn 26)),Qa (Qv 28) (Qe Qt Go.BinOp.lss (Qn 25) (Qn 27))]
def Wl7:MC:=.r0 Yiv
def Yiw:List MO:=[Qa (Qv 31) (Qd (Qn 8)),Qa (Qv 32) (Qd (Qn 6)),Qa (Qv 33) (Qd (Qn 4)),Qa (Qv 34) (Qd (Qn 9)),Qa (Qv 35) (Qj 1 (Qn 33) (Qn 34)),Qa (Qv 36) (Qf 1 false (Qn 35)),Qa (Qv 37) (Qh 60 [(Qn 32),(Qn 36)]),Qa (Qv 38) (MOp.bslice 1 [(Qr Qu 0)] 1 [(0,(Qn 37))]),Qa (Qv 39) (MOp.app 3 1 8 (Qn 31) (Qn 38)),Qa (Qv 8) (Qd (Qn 39))]
def Wl8:MC:=.r0 Yiw
def Yix:List MO:=[Qa (Qv 29) (Qd (Qn 9)),Qa (Qv 30) (Qe Qt Go.BinOp.add (Qn 29) (Qo (Qp (Qq (Qr Qu 1))))),Qa (Qv 9) (Qd (Qn 30))]
def Wl9:MC:=.r0 Yix
def Wma:MC:=.seq Wl6 (.blk 0 (.loop (.seq (.seq Wl7 (.cond (Qn 28) .skip (MC.exit 0))) (.seq (.blk 1 Wl8) Wl9))))
def Yiy:List MO:=[Qa (Qv 40) (Qd (Qn 8)),Qa (Qv 2) (Qd (Qn 40)),Qa (Qv 3) (Qd (Qo (Qp (Qq (Qr Qu 0)))))]
def Wmb:MC:=.r0 Yiy
def Wmc:MC:=.seq W10 (.seq Wl5 (.seq Wma (.seq Wmb .ret)))
def Wmd:MC:=.seq W1x (.seq (.seq W1y (.cond (Qn 16) (.seq W1z .ret) .skip)) Wmc)
def Yiz:MC:=.seq W1w Wmd
attribute [go_sem] Y00 Y01 Y02 Y03 Y04 Yit Yiu Yiv Yiw Yix Yiy
theorem W6u:KK QP 28 f28 [1] Yiz [(RV.t 2),(RV.t 3)] 41:=by refine⟨func28,?_,?_,?_,?_⟩<;>kernel_rfl
theorem W11:Xaa QP 28=true:=by kernel_rfl
theorem W12 (h:GI QP gp [(RV.t 2),(RV.t 3)] res 41 Yiz args):Xak QP gp 28 args res:=W6u.i W11 h
def Y05:List MO:=[Qa (Qv 1) (MOp.ibox (Qn 0)),Qa (Qv 2) (Qd (Qo (Qp (Qq (Qs false)))))]
def W13:MC:=.r0 Y05
def Y06:List MO:=[Qa (Qv 6) (Qf 2 true (Qn 1)),Qa (Qv 7) (Qh 25 [(Qn 6)]),Qa (Qv 5) (Qd (Qn 7)),Qa (Qv 8) (Qi (Qn 5) 0),Qa (Qv 9) (Qi (Qn 5) 1),Qa (Qv 3) (MOp.alloc [(Qr Qu 0),(D.sl [])]),Qa none (Ql 2 (Qn 3) (Qn 8)),Qa (Qv 4) (Qd (Qn 9))]
def W14:MC:=.r0 Y06
def Y07:List MO:=[Qa (Qv 10) (Qd (Qn 4)),Qa (Qv 11) (Qe Qt Go.BinOp.eql (Qn 10) (Qo (Qp (Qq (Qr Qu 0))))),Qa (Qv 12) (Qd (Qn 11)),Qb 12 true (Qv 13),Qa (Qv 13) (Qf 2 true (Qn 1)),Qb 12 true (Qv 14),Qa (Qv 14) (Qf 2 true (Qn 3)),Qb 12 true (Qv 15),Qa (Qv 15) (Qh 53 [(Qn 13),(Qn 14)]),Qa (Qv 16) (Qm (Qn 12) (Qn 15) (Qo (Qp (Qq (Qs false))))),Qa (Qv 2) (Qd (Qn 16))]
def W15:MC:=.r0 Y07
def Y08:MC:=.seq W13 (.seq W14 (.seq W15 .ret))
attribute [go_sem] Y05 Y06 Y07
theorem W6v:KK QP 30 f30 [1] Y08 [(RV.t 2)] 17:=by refine⟨func30,?_,?_,?_,?_⟩<;>kernel_rfl
theorem W16:Xaa QP 30=true:=by kernel_rfl
theorem W17 (h:GI QP gp [(RV.t 2)] res 17 Y08 args):Xak QP gp 30 args res:=W6v.i W16 h
def Y09:List MO:=[Qa (Qv 1) (MOp.ibox (Qn 0)),Qa (Qv 2) (Qd (Qo (Qp (Qq (Qs false)))))]
def W18:MC:=.r0 Y09
def Y1a:List MO:=[Qa (Qv 7) (Qf 2 true (Qn 1)),Qa (Qv 8) (Qh 15 [(Qn 7)]),Qa (Qv 6) (Qd (Qn 8)),Qa (Qv 9) (Qi (Qn 6) 0),Qa (Qv 10) (Qi (Qn 6) 1),Qa (Qv 3) (Qd (Qn 9)),Qa (Qv 4) (Qd (Qn 10))]
def W19:MC:=.r0 Y1a
def Y1b:List MO:=[Qa (Qv 5) (Qd (Qo (Qp (Qq (Qr Qu 0)))))]
def W2a:MC:=.r0 Y1b
def Y1c:List MO:=[Qa (Qv 11) (Qd (Qn 5)),Qa (Qv 12) (Qd (Qn 3)),Qa (Qv 13) (Qk Qt (Qn 12)),Qa (Qv 14) (Qe Qt Go.BinOp.lss (Qn 11) (Qn 13))]
def W2b:MC:=.r0 Y1c
def Y1d:List MO:=[Qa (Qv 17) (Qd (Qn 3)),Qa (Qv 18) (Qd (Qn 5)),Qa (Qv 19) (Qj 1 (Qn 17) (Qn 18)),Qa (Qv 20) (Qf 1 false (Qn 19)),Qa (Qv 21) (Qd (Qn 5)),Qa (Qv 22) (Qe Qt Go.BinOp.neq (Qn 20) (Qn 21))]
def W2c:MC:=.r0 Y1d
def Y1e:List MO:=[Qa (Qv 2) (Qd (Qo (Qp (Qq (Qs false)))))]
def W2d:MC:=.r0 Y1e
def Yi0:List MO:=[Qa (Qv 15) (Qd (Qn 5)),Qa (Qv 16) (Qe Qt Go.BinOp.add (Qn 15) (Qo (Qp (Qq (Qr Qu 1))))),Qa (Qv 5) (Qd (Qn 16))]
def Wme:MC:=.r0 Yi0
def Wmf:MC:=.seq (.seq W2b (.cond (Qn 14) .skip (MC.exit 0))) (.seq (.blk 1 (.seq W2c (.cond (Qn 22) (.seq W2d .ret) .skip))) Wme)
def Yi1:List MO:=[Qa (Qv 23) (Qd (Qn 4)),Qa (Qv 24) (Qe Qt Go.BinOp.eql (Qn 23) (Qo (Qp (Qq (Qr Qu 0))))),Qa (Qv 25) (Qd (Qn 24)),Qb 25 true (Qv 26),Qa (Qv 26) (Qf 2 true (Qn 1)),Qb 25 true (Qv 27),Qa (Qv 27) (Qh 61 [(Qn 26)]),Qa (Qv 28) (Qm (Qn 25) (Qn 27) (Qo (Qp (Qq (Qs false))))),Qa (Qv 2) (Qd (Qn 28))]
def Wmg:MC:=.r0 Yi1
def Wmh:MC:=.seq W19 (.seq (.seq W2a (.blk 0 (.loop Wmf))) (.seq Wmg .ret))
def Yi2:MC:=.seq W18 Wmh
attribute [go_sem] Y09 Y1a Y1b Y1c Y1d Y1e Yi0 Yi1
theorem W6w:KK QP 31 f31 [1] Yi2 [(RV.t 2)] 29:=by refine⟨func31,?_,?_,?_,?_⟩<;>kernel_rfl
theorem W2e:Xaa QP 31=true:=by kernel_rfl
theorem W2f (h:GI QP gp [(RV.t 2)] res 29 Yi2 args):Xak QP gp 31 args res:=W6w.i W2e h
def Y1f:List MO:=[Qa (Qv 1) (MOp.ibox (Qn 0)),Qa (Qv 2) (Qd (Qo (Qp (Qq D.nilP)))),Qa (Qv 3) (Qd (Qo (Qp (Qq D.nilI))))]
def W2g:MC:=.r0 Y1f
def Y1g:List MO:=[Qa (Qv 7) (Qf 2 true (Qn 1)),Qa (Qv 8) (Qh 14 [(Qn 7)]),Qa (Qv 6) (Qd (Qn 8)),Qa (Qv 9) (Qi (Qn 6) 0),Qa (Qv 10) (Qi (Qn 6) 1),Qa (Qv 4) (Qd (Qn 9)),Qa (Qv 5) (Qd (Qn 10))]
def W2h:MC:=.r0 Y1g
def Y1h:List MO:=[Qa (Qv 11) (Qd (Qn 5)),Qa (Qv 12) (Qe Qt Go.BinOp.neq (Qn 11) (Qo (Qp (Qq (Qr Qu 0)))))]
def W2i:MC:=.r0 Y1h
def Y1i:List MO:=[Qa (Qv 13) (Qd (Qn 5)),Qa (Qv 14) (MOp.build [(Qr Qu 0)] [(0,(1,(Qn 13)))]),Qa (Qv 15) (MOp.mkI 132 (Qn 14)),Qa (Qv 2) (Qd (Qo (Qp (Qq D.nilP)))),Qa (Qv 3) (Qd (Qn 15))]
def W2j:MC:=.r0 Y1i
def Y1j:List MO:=[Qa (Qv 16) (Qf 2 true (Qn 1)),Qa (Qv 17) (Qd (Qn 4)),Qa (Qv 18) (MOp.build [(Qr Qu 0),(D.sl []),(D.sl [])] [(0,(2,(Qn 16))),(2,(1,(Qn 17)))]),Qa (Qv 19) (MOp.ibox (Qn 18)),Qa (Qv 2) (Qd (Qn 19)),Qa (Qv 3) (Qd (Qo (Qp (Qq D.nilI))))]
def W2k:MC:=.r0 Y1j
def Wmi:MC:=.seq W2h (.seq (.seq W2i (.cond (Qn 12) (.seq W2j .ret) .skip)) (.seq W2k .ret))
def Yi3:MC:=.seq W2g Wmi
attribute [go_sem] Y1f Y1g Y1h Y1i Y1j
theorem W6x:KK QP 54 f54 [1,19] Yi3 [(RV.t 2),(RV.t 3)] 20:=by refine⟨func54,?_,?_,?_,?_⟩<;>kernel_rfl
theorem W2l:Xaa QP 54=true:=by kernel_rfl
theorem W2m (h:GI QP gp [(RV.t 2),(RV.t 3)] res 20 Yi3 args):Xak QP gp 54 args res:=W6x.i W2l h
def Y1k:List MO:=[Qa (Qv 2) (Qd (Qo (Qp (Qq (Qr Qu 0)))))]
def W2n:MC:=.r0 Y1k
def Y1l:List MO:=[Qa (Qv 3) (MOp.alloc [(Qr Qu 0)])]
def W2o:MC:=.r0 Y1l
def Y1m:List MO:=[Qa (Qv 4) (Qd (Qn 0)),Qa (Qv 5) (MOp.mkI 134 (Qn 3)),Qa (Qv 6) (Qh 87 [(Qn 4),(Qn 5)])]
def W2p:MC:=.r0 Y1m
def Y1n:List MO:=[Qa (Qv 7) (Qg 0 (Qn 3)),Qa (Qv 8) (Qf 1 false (Qn 7)),Qa (Qv 2) (Qd (Qn 8))]
def W2q:MC:=.r0 Y1n
def Y1o:List MO:=[Qa (Qv 2) (Qd (Qo (Qp (Qq (Qr Qu 0)))))]
def W2r:MC:=.r0 Y1o
def Wmj:MC:=.seq W2o (.seq (.seq W2p (.cond (Qn 6) (.seq W2q .ret) .skip)) (.seq W2r .ret))
def Yi4:MC:=.seq W2n Wmj
attribute [go_sem] Y1k Y1l Y1m Y1n Y1o
theorem W6y:KK QP 55 f55 [] Yi4 [(RV.t 2)] 9:=by refine⟨func55,?_,?_,?_,?_⟩<;>kernel_rfl
theorem W2s:Xaa QP 55=true:=by kernel_rfl
theorem W2t (h:GI QP gp [(RV.t 2)] res 9 Yi4 args):Xak QP gp 55 args res:=W6y.i W2s h
def Y1p:List MO:=[Qa (Qv 1) (MOp.ibox (Qn 0)),Qa (Qv 2) (MOp.alloc [(Qr Qu 0),(D.sl [])])]
def W2u:MC:=.r0 Y1p
def Y1q:List MO:=[Qa (Qv 10) (Qf 1 false (Qn 1)),Qa (Qv 11) (MOp.nck (Qn 10)),Qa (Qv 12) (Qg 2 (Qn 11)),Qa (Qv 13) (Qf 1 false (Qn 12)),Qa (Qv 14) (Qf 1 false (Qn 1)),Qa (Qv 15) (MOp.nck (Qn 14)),Qa (Qv 16) (Qg 0 (Qn 15)),Qa (Qv 17) (Qg 0 (Qn 16)),Qa (Qv 18) (Qf 1 false (Qn 17)),Qa (Qv 19) (Qj 1 (Qn 13) (Qn 18)),Qa (Qv 20) (Qf 1 false (Qn 19)),Qa (Qv 21) (MOp.build [(Qr Qu 0),(D.sl [])] [(0,(1,(Qn 20)))]),Qa (Qv 3) (MOp.alloc [(Qr Qu 0),(D.sl [])]),Qa none (Ql 2 (Qn 3) (Qn 21))]
def W2v:MC:=.reg true Y1q
def Y1r:List MO:=[Qa (Qv 22) (Qf 1 false (Qn 1)),Qa (Qv 23) (Qh 88 [(Qn 22)])]
def W2w:MC:=.r0 Y1r
def Y1s:List MO:=[Qa (Qv 5) (Qd (Qn 25))]
def W2x:MC:=.r0 Y1s
def Y1t:List MO:=[Qa (Qv 27) (Qf 1 false (Qn 1)),Qa (Qv 28) (MOp.nck (Qn 27)),Qa (Qv 29) (Qg 0 (Qn 28)),Qa (Qv 30) (Qf 2 true (Qn 29)),Qa (Qv 31) (Qd (Qn 5)),Qa (Qv 32) (Qh 64 [(Qn 30),(Qn 31)]),Qa (Qv 26) (Qd (Qn 32)),Qa (Qv 33) (Qi (Qn 26) 0),Qa (Qv 34) (Qi (Qn 26) 1),Qa (Qv 6) (Qd (Qn 33)),Qa (Qv 7) (Qd (Qn 34))]
def W2y:MC:=.r0 Y1t
def Y1u:List MO:=[Qa (Qv 36) (Qf 1 false (Qn 1)),Qa (Qv 37) (MOp.nck (Qn 36)),Qa (Qv 38) (Qg 0 (Qn 37)),Qa (Qv 39) (Qf 2 true (Qn 38)),Qa (Qv 40) (Qd (Qn 5)),Qa (Qv 41) (Qh 21 [(Qn 39),(Qn 40)]),Qa (Qv 35) (Qd (Qn 41)),Qa (Qv 42) (Qi (Qn 35) 0),Qa (Qv 43) (Qi (Qn 35) 1),Qa (Qv 8) (Qd (Qn 42)),Qa (Qv 9) (Qd (Qn 43))]
def W2z:MC:=.r0 Y1u
def Y1v:List MO:=[Qa (Qv 44) (Qg 1 (Qn 3)),Qa (Qv 45) (Qf 1 false (Qn 44)),Qa (Qv 46) (Qf 1 false (Qn 1)),Qa (Qv 47) (MOp.nck (Qn 46)),Qa (Qv 48) (Qg 0 (Qn 47)),Qa (Qv 49) (Qg 1 (Qn 48)),Qa (Qv 50) (Qf 1 false (Qn 49)),Qa (Qv 51) (Qd (Qn 5)),Qa (Qv 52) (Qj 6 (Qn 50) (Qn 51)),Qa (Qv 53) (Qg 0 (Qn 52)),Qa (Qv 54) (Qf 1 false (Qn 53)),Qa (Qv 55) (Qf 1 false (Qn 1)),Qa (Qv 56) (MOp.nck (Qn 55)),Qa (Qv 57) (Qg 0 (Qn 56)),Qa (Qv 58) (Qg 1 (Qn 57)),Qa (Qv 59) (Qf 1 false (Qn 58)),Qa (Qv 60) (Qd (Qn 5)),Qa (Qv 61) (Qj 6 (Qn 59) (Qn 60)),Qa (Qv 62) (Qg 1 (Qn 61)),Qa (Qv 63) (Qf 3 true (Qn 62)),Qa (Qv 64) (Qd (Qn 6)),Qa (Qv 65) (Qf 1 false (Qn 1)),Qa (Qv 66) (Qd (Qn 8)),Qa (Qv 67) (Qh 89 [(Qn 65),(Qn 66)]),Qa (Qv 68) (MOp.build [(Qr Qu 0),(Qr Qu 0),(Qr Qu 0),(D.str (ByteArray.mk #[])),(D.sl []),(D.sl [])] [(0,(1,(Qn 54))),(1,(3,(Qn 63))),(4,(1,(Qn 64))),(5,(1,(Qn 67)))]),Qa (Qv 69) (MOp.bslice 6 [(Qr Qu 0),(Qr Qu 0),(Qr Qu 0),(D.str (ByteArray.mk #[])),(D.sl []),(D.sl [])] 1 [(0,(Qn 68))]),Qa (Qv 70) (MOp.app 44 6 88 (Qn 45) (Qn 69)),Qa (Qv 71) (Qg 1 (Qn 3)),Qa none (Ql 1 (Qn 71) (Qn 70))]
def W20:MC:=.reg true Y1v
def Wmk:MC:=.rf (Qn 23) [24,25] W2x (.blk 1 (.seq W2y (.seq W2z W20)))
def Yi5:List MO:=[Qa (Qv 72) (Qf 2 true (Qn 3)),Qa none (Ql 2 (Qn 2) (Qn 72))]
def Wml:MC:=.r0 Yi5
def Wmm:MC:=.seq W2v (.seq (.seq W2w (.blk 0 Wmk)) (.seq Wml .ret))
def Yi6:MC:=.seq W2u Wmm
attribute [go_sem] Y1p Y1q Y1r Y1s Y1t Y1u Y1v Yi5
theorem W6z:KK QP 56 f56 [1] Yi6 [(RV.cell 2 2 true)] 73:=by refine⟨func56,?_,?_,?_,?_⟩<;>kernel_rfl
theorem W21:Xaa QP 56=true:=by kernel_rfl
theorem W22 (h:GI QP gp [(RV.cell 2 2 true)] res 73 Yi6 args):Xak QP gp 56 args res:=W6z.i W21 h
def Y1w:List MO:=[Qa (Qv 2) (MOp.ibox (Qn 0)),Qa (Qv 4) (MOp.alloc [(Qr Qu 0),(D.sl [])])]
def W23:MC:=.r0 Y1w
def Y1x:List MO:=[Qa (Qv 11) (Qd (Qn 1)),Qa (Qv 12) (Qg 0 (Qn 2)),Qa (Qv 13) (Qf 1 false (Qn 12)),Qa (Qv 14) (Qj 1 (Qn 11) (Qn 13)),Qa (Qv 15) (Qf 1 false (Qn 14)),Qa (Qv 16) (MOp.build [(Qr Qu 0),(D.sl [])] [(0,(1,(Qn 15)))]),Qa (Qv 5) (MOp.alloc [(Qr Qu 0),(D.sl [])]),Qa none (Ql 2 (Qn 5) (Qn 16))]
def W24:MC:=.r0 Y1x
def Y1y:List MO:=[Qa (Qv 6) (Qd (Qo (Qp (Qq (Qr Qu 0)))))]
def W25:MC:=.r0 Y1y
def Y1z:List MO:=[Qa (Qv 17) (Qd (Qn 6)),Qa (Qv 18) (Qg 1 (Qn 2)),Qa (Qv 19) (Qf 1 false (Qn 18)),Qa (Qv 20) (Qk Qt (Qn 19)),Qa (Qv 21) (Qe Qt Go.BinOp.lss (Qn 17) (Qn 20))]
def W26:MC:=.r0 Y1z
def Y10:List MO:=[Qa (Qv 24) (Qd (Qn 1)),Qa (Qv 25) (Qd (Qn 6)),Qa (Qv 26) (Qj 1 (Qn 24) (Qn 25)),Qa (Qv 27) (Qf 1 false (Qn 26)),Qa (Qv 28) (Qg 1 (Qn 5)),Qa (Qv 29) (Qf 1 false (Qn 28)),Qa (Qv 30) (Qk Qt (Qn 29)),Qa (Qv 31) (Qe Qt Go.BinOp.lss (Qn 27) (Qn 30))]
def W27:MC:=.reg true Y10
def Yi7:List MO:=[Qa (Qv 32) (Qg 1 (Qn 2)),Qa (Qv 33) (Qf 1 false (Qn 32)),Qa (Qv 34) (Qd (Qn 6)),Qa (Qv 35) (Qj 6 (Qn 33) (Qn 34)),Qa (Qv 36) (Qg 0 (Qn 35)),Qa (Qv 37) (Qf 1 false (Qn 36)),Qa (Qv 38) (Qg 1 (Qn 2)),Qa (Qv 39) (Qf 1 false (Qn 38)),Qa (Qv 40) (Qd (Qn 6)),Qa (Qv 41) (Qj 6 (Qn 39) (Qn 40)),Qa (Qv 42) (Qg 1 (Qn 41)),Qa (Qv 43) (Qf 3 true (Qn 42)),Qa (Qv 44) (MOp.build [(Qr Qu 0),(Qr Qu 0),(Qr Qu 0),(D.str (ByteArray.mk #[])),(D.sl []),(D.sl [])] [(0,(1,(Qn 37))),(1,(3,(Qn 43)))]),Qa (Qv 7) (MOp.alloc [(Qr Qu 0),(Qr Qu 0),(Qr Qu 0),(D.str (ByteArray.mk #[])),(D.sl []),(D.sl [])]),Qa none (Ql 6 (Qn 7) (Qn 44))]
def Wmn:MC:=.reg true Yi7
def Yi8:List MO:=[Qa (Qv 46) (Qf 2 true (Qn 2)),Qa (Qv 47) (Qd (Qn 6)),Qa (Qv 48) (Qh 51 [(Qn 46),(Qn 47)]),Qa (Qv 45) (Qd (Qn 48)),Qa (Qv 49) (Qi (Qn 45) 0),Qa (Qv 50) (Qi (Qn 45) 1),Qa (Qv 51) (Qg 4 (Qn 7)),Qa none (Ql 1 (Qn 51) (Qn 49))]
def Wmo:MC:=.r0 Yi8
def Yi9:List MO:=[Qa (Qv 53) (Qf 2 true (Qn 2)),Qa (Qv 54) (Qd (Qn 6)),Qa (Qv 55) (Qh 47 [(Qn 53),(Qn 54)]),Qa (Qv 52) (Qd (Qn 55)),Qa (Qv 56) (Qi (Qn 52) 0),Qa (Qv 57) (Qi (Qn 52) 1),Qa (Qv 8) (Qd (Qn 56)),Qa (Qv 9) (Qd (Qn 57))]
def Wmp:MC:=.r0 Yi9
def Yja:List MO:=[Qa (Qv 10) (Qd (Qo (Qp (Qq (Qr Qu 0)))))]
def Wmq:MC:=.r0 Yja
def Yjb:List MO:=[Qa (Qv 58) (Qd (Qn 10)),Qa (Qv 59) (Qd (Qn 8)),Qa (Qv 60) (Qk Qt (Qn 59)),Qa (Qv 61) (Qe Qt Go.BinOp.lss (Qn 58) (Qn 60))]
def Wmr:MC:=.r0 Yjb
def Yjc:List MO:=[Qa (Qv 64) (Qg 5 (Qn 7)),Qa (Qv 65) (Qf 1 false (Qn 64)),Qa (Qv 66) (Qd (Qn 1)),Qa (Qv 67) (Qd (Qn 8)),Qa (Qv 68) (Qd (Qn 10)),Qa (Qv 69) (Qj 1 (Qn 67) (Qn 68)),Qa (Qv 70) (Qf 1 false (Qn 69)),Qa (Qv 71) (Qj 1 (Qn 66) (Qn 70)),Qa (Qv 72) (Qf 1 false (Qn 71)),Qa (Qv 73) (MOp.bslice 1 [(Qr Qu 0)] 1 [(0,(Qn 72))]),Qa (Qv 74) (MOp.app 3 1 8 (Qn 65) (Qn 73)),Qa (Qv 75) (Qg 5 (Qn 7)),Qa none (Ql 1 (Qn 75) (Qn 74))]
def Wms:MC:=.reg true Yjc
def Yjd:List MO:=[Qa (Qv 62) (Qd (Qn 10)),Qa (Qv 63) (Qe Qt Go.BinOp.add (Qn 62) (Qo (Qp (Qq (Qr Qu 1))))),Qa (Qv 10) (Qd (Qn 63))]
def Wmt:MC:=.r0 Yjd
def Wmu:MC:=.seq Wmq (.blk 2 (.loop (.seq (.seq Wmr (.cond (Qn 61) .skip (MC.exit 2))) (.seq (.blk 3 Wms) Wmt))))
def Yje:List MO:=[Qa (Qv 76) (Qg 1 (Qn 5)),Qa (Qv 77) (Qf 1 false (Qn 76)),Qa (Qv 78) (Qf 6 true (Qn 7)),Qa (Qv 79) (MOp.bslice 6 [(Qr Qu 0),(Qr Qu 0),(Qr Qu 0),(D.str (ByteArray.mk #[])),(D.sl []),(D.sl [])] 1 [(0,(Qn 78))]),Qa (Qv 80) (MOp.app 44 6 88 (Qn 77) (Qn 79)),Qa (Qv 81) (Qg 1 (Qn 5)),Qa none (Ql 1 (Qn 81) (Qn 80))]
def Wmv:MC:=.r0 Yje
def Wmw:MC:=.seq Wmo (.seq Wmp (.seq Wmu Wmv))
def Yjf:List MO:=[Qa (Qv 22) (Qd (Qn 6)),Qa (Qv 23) (Qe Qt Go.BinOp.add (Qn 22) (Qo (Qp (Qq (Qr Qu 1))))),Qa (Qv 6) (Qd (Qn 23))]
def Wmx:MC:=.r0 Yjf
def Wmy:MC:=.seq (.blk 1 (.seq (.seq W27 (.cond (Qn 31) (MC.exit 1) .skip)) (.seq Wmn Wmw))) Wmx
def Yjg:List MO:=[Qa (Qv 82) (Qf 2 true (Qn 5)),Qa none (Ql 2 (Qn 4) (Qn 82))]
def Wmz:MC:=.r0 Yjg
def Wm0:MC:=.seq (.seq W25 (.blk 0 (.loop (.seq (.seq W26 (.cond (Qn 21) .skip (MC.exit 0))) Wmy)))) (.seq Wmz .ret)
def Yjh:MC:=.seq W23 (.seq W24 Wm0)
attribute [go_sem] Y1w Y1x Y1y Y1z Y10 Yi7 Yi8 Yi9 Yja Yjb Yjc Yjd Yje Yjf Yjg
theorem W60:KK QP 58 f58 [2] Yjh [(RV.cell 4 2 true)] 83:=by refine⟨func58,?_,?_,?_,?_⟩<;>kernel_rfl
theorem W28:Xaa QP 58=true:=by kernel_rfl
theorem W29 (h:GI QP gp [(RV.cell 4 2 true)] res 83 Yjh args):Xak QP gp 58 args res:=W60.i W28 h
def Y11:List MO:=[Qa (Qv 1) (MOp.ibox (Qn 0)),Qa (Qv 2) (Qd (Qo (Qp (Qq D.nilF))))]
def W3a:MC:=.r0 Y11
def Y12:List MO:=[Qa (Qv 3) (MOp.mkF (Go.Fn.func 113) [(Qn 1)]),Qa (Qv 2) (Qd (Qn 3))]
def W3b:MC:=.r0 Y12
def Y13:MC:=.seq W3a (.seq W3b .ret)
attribute [go_sem] Y11 Y12
theorem W61:KK QP 88 f88 [1] Y13 [(RV.t 2)] 4:=by refine⟨func88,?_,?_,?_,?_⟩<;>kernel_rfl
theorem W3c:Xaa QP 88=true:=by kernel_rfl
theorem W3d (h:GI QP gp [(RV.t 2)] res 4 Y13 args):Xak QP gp 88 args res:=W61.i W3c h
def Xji:List MO:=[Qa (Qv 4) (Qd (Qo (Qp A.nil)))]
def W3e:MC:=.r0 Xji
def Xjj:List MO:=[Qa (Qv 5) (Qd (Qo (Qp A.nil)))]
def W3f:MC:=.r0 Xjj
def Xjk:List MO:=[Qa (Qv 8) (Qd (Qn 1)),Qa (Qv 9) (Qk Qt (Qn 8)),Qa (Qv 10) (Qd (Qo (Qp (Qq (Qr Qu 0)))))]
def W3g:MC:=.r0 Xjk
def Xhx:List MO:=[Qa (Qv 11) (Qe Qt Go.BinOp.lss (Qn 10) (Qn 9))]
def W3h:MC:=.r0 Xhx
def Xjl:List MO:=[Qa (Qv 12) (Qj 1 (Qn 8) (Qn 10)),Qa (Qv 13) (Qf 1 false (Qn 12)),Qa (Qv 7) (Qd (Qn 13))]
def W3i:MC:=.r0 Xjl
def Xjm:List MO:=[Qa (Qv 14) (Qd (Qn 5)),Qa (Qv 15) (Qd (Qn 0)),Qa (Qv 16) (MOp.nck (Qn 15)),Qa (Qv 17) (Qg 2 (Qn 16)),Qa (Qv 18) (Qf 1 false (Qn 17)),Qa (Qv 19) (Qd (Qn 7)),Qa (Qv 20) (Qj 1 (Qn 18) (Qn 19)),Qa (Qv 21) (Qf 1 false (Qn 20)),Qa (Qv 22) (MOp.bslice 1 [(Qr Qu 0)] 1 [(0,(Qn 21))]),Qa (Qv 23) (MOp.app 3 1 8 (Qn 14) (Qn 22)),Qa (Qv 5) (Qd (Qn 23))]
def W3j:MC:=.r0 Xjm
def Xgg:List MO:=[Qa (Qv 24) (Qe Qt Go.BinOp.add (Qn 10) (Qo (Qp (Qq (Qr Qu 1))))),Qa (Qv 10) (Qd (Qn 24))]
def Wm1:MC:=.r0 Xgg
def Wm2:MC:=.seq W3h (.seq (.cond (Qn 11) .skip (MC.exit 0)) (.seq (.blk 1 (.seq W3i W3j)) Wm1))
def Xgh:List MO:=[Qa (Qv 25) (Qd (Qn 5)),Qa (Qv 4) (Qd (Qn 25))]
def Wm3:MC:=.r0 Xgh
def Wm4:MC:=.seq W3f (.seq (.seq W3g (.blk 0 (.loop Wm2))) (.seq Wm3 .ret))
def Yji:MC:=.seq W3e Wm4
theorem W62:KK QP 89 f89 [] Yji [(RV.t 4)] 26:=by refine⟨func89,?_,?_,?_,?_⟩<;>kernel_rfl
theorem W3k:Xaa QP 89=true:=by kernel_rfl
theorem W3l (h:GI QP gp [(RV.t 4)] res 26 Yji args):Xak QP gp 89 args res:=W62.i W3k h
def Yjj:List MO:=[Qa (Qv 6) MOp.mkM,Qa (Qv 3) (Qd (Qn 6))]
def Wm5:MC:=.r0 Yjj
def Yjk:List MO:=[Qa (Qv 7) (Qf 1 false (Qn 1)),Qa (Qv 8) (MOp.nck (Qn 7)),Qa (Qv 9) (Qg 2 (Qn 8)),Qa (Qv 10) (Qf 1 false (Qn 9)),Qa (Qv 11) (Qk Qt (Qn 10)),Qa (Qv 12) (Qd (Qo (Qp (Qq (Qr Qu 0)))))]
def Wm6:MC:=.r0 Yjk
def Yjl:List MO:=[Qa (Qv 13) (Qe Qt Go.BinOp.lss (Qn 12) (Qn 11))]
def Wm7:MC:=.r0 Yjl
def Yjm:List MO:=[Qa (Qv 14) (Qd (Qn 12)),Qa (Qv 15) (Qj 1 (Qn 10) (Qn 12)),Qa (Qv 16) (Qf 1 false (Qn 15)),Qa (Qv 4) (Qd (Qn 14)),Qa (Qv 5) (Qd (Qn 16))]
def Wm8:MC:=.r0 Yjm
def Yjn:List MO:=[Qa (Qv 17) (Qd (Qn 3)),Qa (Qv 18) (Qd (Qn 5)),Qa (Qv 19) (MOp.lkp false (Qp (Qq (Qs false))) false [Qt] (Qn 17) (Qn 18))]
def Wm9:MC:=.r0 Yjn
def Xz0:List MO:=[Qa (Qv 20) (Qd (Qn 3)),Qa (Qv 21) (Qd (Qn 5)),Qa none (MOp.mupd false [Qt] (Qn 20) (Qn 21) (Qo (Qp (Qq (Qs true)))))]
def Yr3:MC:=.r0 Xz0
def Xz1:List MO:=[Qa (Qv 22) (Qd (Qn 0)),Qa (Qv 23) (Qd (Qn 5)),Qa (Qv 24) (Qd (Qn 4)),Qa (Qv 25) (MOp.callv (Qn 22) [(Qn 23),(Qn 24)]),Qa (Qv 26) (MOp.not (Qn 25))]
def Yr4:MC:=.r0 Xz1
def Yr5:MC:=.seq Wm8 (.seq (.seq Wm9 (.cond (Qn 19) (MC.exit 1) .skip)) (.seq Yr3 (.seq Yr4 (.cond (Qn 26) (MC.exit 0) .skip))))
def Xz2:List MO:=[Qa (Qv 27) (Qe Qt Go.BinOp.add (Qn 12) (Qo (Qp (Qq (Qr Qu 1))))),Qa (Qv 12) (Qd (Qn 27))]
def Yr6:MC:=.r0 Xz2
def Yr7:MC:=.seq Wm6 (.blk 0 (.loop (.seq Wm7 (.seq (.cond (Qn 13) .skip (MC.exit 0)) (.seq (.blk 1 Yr5) Yr6)))))
def Xz3:MC:=.scope (.seq Wm5 (.seq .skip Yr7))
attribute [go_sem] Yjj Yjk Yjl Yjm Yjn Xz0 Xz1 Xz2
theorem W3m:KK QP 113 f113 [] Xz3 [] 28:=by refine⟨func113,?_,?_,?_,?_⟩<;>kernel_rfl
theorem Wna:Xaa QP 113=true:=by kernel_rfl
theorem Yr8 (h:GT QP gp [] pre R 28 Xz3 args):Tri QP gp 113 args pre R:=W3m.t h
end Go.Fw.L07
