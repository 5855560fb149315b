/- Small codes. -/
import Derived.Test.YtiklocoaghcliaaGreatDoorFd
import Derived.Test.YtiklocoaghcliaaGreatDoorProg
set_option linter.all false
namespace Go.Fw.L07
open Go Go.Fw
open Go.Proofs.Tryz renaming prog->QP
open Go.Proofs.Tryz (f24 func24)
open Go.Fw.MO renaming op->Qa
open Go.Fw.MOp renaming mv->Qd,bin->Qe,load->Qf,fad->Qg,call->Qh,len->Qk,store->Ql
open Go.Fw.Opd renaming t->Qn,c->Qo
open Go.Fw.V renaming one->Qp
open Go.Fw.A renaming d->Qq
open Go.Fw.D renaming int->Qr
open Go.Fw.Leaf renaming i->Qt
open Go.IntKind renaming i64->Qu
open Option renaming some->Qv
variable {gp:Xaj} {args:List V} {res:V} {pre:List Ch} {R:V->List Ch->Prop}
def Yyu:List MO:=[Qa (Qv 2) (MOp.ibox (Qn 0)),Qa (Qv 4) (MOp.alloc [(Qr Qu 0),(D.sl [])])]
def Ww8:MC:=.r0 Yyu
def Yyv:List MO:=[Qa (Qv 5) (Qg 1 (Qn 2)),Qa (Qv 6) (Qf 1 false (Qn 5)),Qa (Qv 7) (Qk Qt (Qn 6)),Qa (Qv 8) (Qd (Qn 1)),Qa (Qv 9) (Qe Qt Go.BinOp.gtr (Qn 7) (Qn 8))]
def Ww9:MC:=.r0 Yyv
def Yyw:List MO:=[Qa (Qv 10) (MOp.build [(Qr Qu 0),(D.sl [])] [(0,(1,(Qo (Qp (Qq (Qr Qu (-1)))))))]),Qa none (Ql 2 (Qn 4) (Qn 10))]
def Wxa:MC:=.r0 Yyw
def Yyx:List MO:=[Qa (Qv 11) (Qf 2 true (Qn 2)),Qa (Qv 12) (Qh 48 [(Qn 11)]),Qa none (Ql 2 (Qn 4) (Qn 12))]
def Wxb:MC:=.r0 Yyx
def Yho:MC:=.seq Ww8 (.seq (.seq Ww9 (.cond (Qn 9) (.seq Wxa .ret) .skip)) (.seq Wxb .ret))
attribute [go_sem] Yyu Yyv Yyw Yyx
theorem W1g:KK QP 24 f24 [2] Yho [(RV.cell 4 2 true)] 13:=by refine⟨func24,?_,?_,?_,?_⟩<;>kernel_rfl
theorem Wxc:Xaa QP 24=true:=by kernel_rfl
theorem Wxd (h:GI QP gp [(RV.cell 4 2 true)] res 13 Yho args):Xao QP gp 24 args res:=W1g.i Wxc h
end Go.Fw.L07
