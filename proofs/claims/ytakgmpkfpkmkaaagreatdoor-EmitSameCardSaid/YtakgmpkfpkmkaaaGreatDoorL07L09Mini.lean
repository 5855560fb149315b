/- Small codes. -/
import Derived.Test.YtakgmpkfpkmkaaaGreatDoorFd
import Derived.Test.YtakgmpkfpkmkaaaGreatDoorProg
set_option linter.all false
namespace Go.Fw.L07
open Go Go.Fw
open Go.Proofs.Tryz renaming prog->QP
open Go.Proofs.Tryz (f22 func22)
open Go.Fw.MO renaming op->Qa
open Go.Fw.MOp renaming mv->Qd,bin->Qe,load->Qf,fad->Qg,call->Qh,len->Qk,store->Ql
open Go.Fw.Opd renaming t->Qn,c->Qo
open Go.Fw.V renaming one->Qp
open Go.Fw.A renaming d->Qq
open Go.Fw.D renaming int->Qr
open Go.Fw.Leaf renaming i->Qt
open Go.IntKind renaming i64->Qu
open Option renaming some->Qv
open Go.BinOp renaming gtr->Qw
variable {gp:Heap} {args:List V} {res:V} {pre:List Ch} {R:V->List Ch->Prop}
def Yxj:=[Qa (Qv 2) (MOp.ibox (Qn 0)),Qa (Qv 4) (MOp.alloc [(Qr Qu 0),(D.sl [])])]
def Wse:MC:=.r0 Yxj
def Yxk:=[Qa (Qv 5) (Qg 1 (Qn 2)),Qa (Qv 6) (Qf 1 false (Qn 5)),Qa (Qv 7) (Qk Qt (Qn 6)),Qa (Qv 8) (Qd (Qn 1)),Qa (Qv 9) (Qe Qt Qw (Qn 7) (Qn 8))]
def Wsf:MC:=.r0 Yxk
def Yxl:=[Qa (Qv 10) (MOp.build [(Qr Qu 0),(D.sl [])] [(0,(1,(Qo (Qp (Qq (Qr Qu (-1)))))))]),Qa none (Ql 2 (Qn 4) (Qn 10))]
def Wsg:MC:=.r0 Yxl
def Yxm:=[Qa (Qv 11) (Qf 2 true (Qn 2)),Qa (Qv 12) (Qh 24 [(Qn 11)]),Qa none (Ql 2 (Qn 4) (Qn 12))]
def Wsh:MC:=.r0 Yxm
def Yd0:MC:=.seq Wse (.seq (.seq Wsf (.cond (Qn 9) (.seq Wsg .ret) .skip)) (.seq Wsh .ret))
attribute [go_sem] Yxj Yxk Yxl Yxm
theorem Wyz:KK QP 22 f22 [2] Yd0 [(RV.cell 4 2 true)] 13:=by refine⟨func22,?_,?_,?_,?_⟩<;>kernel_rfl
theorem Wsi:Xaa QP 22=true:=by kernel_rfl
theorem Wsj (h:GI QP gp [(RV.cell 4 2 true)] res 13 Yd0 args):Does QP gp 22 args res:=Wyz.i Wsi h
end Go.Fw.L07
