/- Small codes. -/
import Derived.Test.YtejnfjophhnaeaaGreatDoorFd
import Derived.Test.YtejnfjophhnaeaaGreatDoorProg
set_option linter.all false
namespace Go.Fw.L07
open Go Go.Fw
open Go.Proofs.Tryz renaming prog->QP
open Go.Proofs.Tryz (f13 f22 func13 func22)
open Go.Fw.MO renaming op->Qa,chk->Qb
open Go.Fw.MOp renaming mv->Qd,bin->Qe,load->Qf,fad->Qg,call->Qh,ext->Qi,iad->Qj,len->Qk,store->Ql,pick->Qm
open Go.Fw.Opd renaming t->Qn,c->Qo
open Go.Fw.V renaming one->Qp
open Go.Fw.A renaming d->Qq
open Go.Fw.D renaming int->Qr,bool->Qs
open Go.Fw.Leaf renaming i->Qt
open Go.IntKind renaming i64->Qu
open Option renaming some->Qv
variable {gp:Xal} {args:List V} {res:V} {pre:List Ch} {R:V->List Ch->Prop}
def Yyj:List MO:=[Qa (Qv 2) (MOp.ibox (Qn 0)),Qa (Qv 4) (MOp.alloc [(Qr Qu 0),(D.sl [])])]
def Wxw:MC:=.r0 Yyj
def Yyk:List MO:=[Qa (Qv 5) (Qg 1 (Qn 2)),Qa (Qv 6) (Qf 1 false (Qn 5)),Qa (Qv 7) (Qk Qt (Qn 6)),Qa (Qv 8) (Qd (Qn 1)),Qa (Qv 9) (Qe Qt Go.BinOp.gtr (Qn 7) (Qn 8))]
def Wxx:MC:=.r0 Yyk
def Yyl:List MO:=[Qa (Qv 10) (MOp.build [(Qr Qu 0),(D.sl [])] [(0,(1,(Qo (Qp (Qq (Qr Qu (-1)))))))]),Qa none (Ql 2 (Qn 4) (Qn 10))]
def Wxy:MC:=.r0 Yyl
def Yym:List MO:=[Qa (Qv 11) (Qf 2 true (Qn 2)),Qa (Qv 12) (Qh 35 [(Qn 11)]),Qa none (Ql 2 (Qn 4) (Qn 12))]
def Wxz:MC:=.r0 Yym
def Yfd:MC:=.seq Wxw (.seq (.seq Wxx (.cond (Qn 9) (.seq Wxy .ret) .skip)) (.seq Wxz .ret))
attribute [go_sem] Yyj Yyk Yyl Yym
theorem W5w:KK QP 13 f13 [2] Yfd [(RV.cell 4 2 true)] 13:=by refine⟨func13,?_,?_,?_,?_⟩<;>kernel_rfl
theorem Wx0:Xaa QP 13=true:=by kernel_rfl
theorem Wx1 (h:GI QP gp [(RV.cell 4 2 true)] res 13 Yfd args):Xak QP gp 13 args res:=W5w.i Wx0 h
def Yyn:List MO:=[Qa (Qv 4) (MOp.ibox (Qn 0)),Qa (Qv 6) (MOp.ibox (Qn 2)),Qa (Qv 8) (Qd (Qo (Qp (Qq (Qs false)))))]
def Wx2:MC:=.r0 Yyn
def Yyo:List MO:=[Qa (Qv 15) (Qg 1 (Qn 4)),Qa (Qv 16) (Qf 1 false (Qn 15)),Qa (Qv 17) (Qd (Qn 1)),Qa (Qv 18) (Qj 6 (Qn 16) (Qn 17)),Qa (Qv 19) (Qf 6 true (Qn 18)),Qa (Qv 9) (MOp.alloc [(Qr Qu 0),(Qr Qu 0),(Qr Qu 0),(D.str (ByteArray.mk #[])),(D.sl []),(D.sl [])]),Qa none (Ql 6 (Qn 9) (Qn 19))]
def Wx3:MC:=.r0 Yyo
def Yyp:List MO:=[Qa (Qv 20) (Qg 1 (Qn 6)),Qa (Qv 21) (Qf 1 false (Qn 20)),Qa (Qv 22) (Qd (Qn 3)),Qa (Qv 23) (Qj 6 (Qn 21) (Qn 22)),Qa (Qv 24) (Qf 6 true (Qn 23)),Qa (Qv 10) (MOp.alloc [(Qr Qu 0),(Qr Qu 0),(Qr Qu 0),(D.str (ByteArray.mk #[])),(D.sl []),(D.sl [])]),Qa none (Ql 6 (Qn 10) (Qn 24))]
def Wx4:MC:=.r0 Yyp
def Yyq:List MO:=[Qa (Qv 26) (Qf 2 true (Qn 4)),Qa (Qv 27) (Qd (Qn 1)),Qa (Qv 28) (Qh 51 [(Qn 26),(Qn 27)]),Qa (Qv 25) (Qd (Qn 28)),Qa (Qv 29) (Qi (Qn 25) 0),Qa (Qv 30) (Qi (Qn 25) 1),Qa (Qv 11) (Qd (Qn 29)),Qa (Qv 12) (Qd (Qn 30))]
def Wx5:MC:=.r0 Yyq
def Yyr:List MO:=[Qa (Qv 32) (Qf 2 true (Qn 6)),Qa (Qv 33) (Qd (Qn 3)),Qa (Qv 34) (Qh 51 [(Qn 32),(Qn 33)]),Qa (Qv 31) (Qd (Qn 34)),Qa (Qv 35) (Qi (Qn 31) 0),Qa (Qv 36) (Qi (Qn 31) 1),Qa (Qv 13) (Qd (Qn 35)),Qa (Qv 14) (Qd (Qn 36))]
def Wx6:MC:=.r0 Yyr
def Yys:List MO:=[Qa (Qv 37) (Qg 0 (Qn 9)),Qa (Qv 38) (Qf 1 false (Qn 37)),Qa (Qv 39) (Qg 0 (Qn 10)),Qa (Qv 40) (Qf 1 false (Qn 39)),Qa (Qv 41) (Qe Qt Go.BinOp.eql (Qn 38) (Qn 40)),Qa (Qv 42) (Qd (Qn 41)),Qb 42 true (Qv 43),Qa (Qv 43) (Qg 1 (Qn 9)),Qb 42 true (Qv 44),Qa (Qv 44) (Qf 3 true (Qn 43)),Qb 42 true (Qv 45),Qa (Qv 45) (Qg 1 (Qn 10)),Qb 42 true (Qv 46),Qa (Qv 46) (Qf 3 true (Qn 45)),Qb 42 true (Qv 47),Qa (Qv 47) (MOp.eqs false [Qt,Qt,Leaf.s] (Qn 44) (Qn 46)),Qa (Qv 48) (Qm (Qn 42) (Qn 47) (Qo (Qp (Qq (Qs false))))),Qa (Qv 49) (Qd (Qn 48)),Qb 49 true (Qv 50),Qa (Qv 50) (Qd (Qn 11)),Qb 49 true (Qv 51),Qa (Qv 51) (Qd (Qn 13)),Qb 49 true (Qv 52),Qa (Qv 52) (Qh 52 [(Qn 50),(Qn 51)]),Qa (Qv 53) (Qm (Qn 49) (Qn 52) (Qo (Qp (Qq (Qs false))))),Qa (Qv 54) (Qd (Qn 53)),Qb 54 true (Qv 55),Qa (Qv 55) (Qg 5 (Qn 9)),Qb 54 true (Qv 56),Qa (Qv 56) (Qf 1 false (Qn 55)),Qb 54 true (Qv 57),Qa (Qv 57) (Qk Qt (Qn 56)),Qb 54 true (Qv 58),Qa (Qv 58) (Qg 5 (Qn 10)),Qb 54 true (Qv 59),Qa (Qv 59) (Qf 1 false (Qn 58)),Qb 54 true (Qv 60),Qa (Qv 60) (Qk Qt (Qn 59)),Qb 54 true (Qv 61),Qa (Qv 61) (Qe Qt Go.BinOp.eql (Qn 57) (Qn 60)),Qa (Qv 62) (Qm (Qn 54) (Qn 61) (Qo (Qp (Qq (Qs false))))),Qa (Qv 8) (Qd (Qn 62))]
def Wx7:MC:=.r0 Yys
def Wh5:MC:=.seq Wx4 (.seq Wx5 (.seq Wx6 (.seq Wx7 .ret)))
def Yfe:MC:=.seq Wx2 (.seq Wx3 Wh5)
attribute [go_sem] Yyn Yyo Yyp Yyq Yyr Yys
theorem W5x:KK QP 22 f22 [4,6] Yfe [(RV.t 8)] 63:=by refine⟨func22,?_,?_,?_,?_⟩<;>kernel_rfl
theorem Wx8:Xaa QP 22=true:=by kernel_rfl
theorem Wx9 (h:GI QP gp [(RV.t 8)] res 63 Yfe args):Xak QP gp 22 args res:=W5x.i Wx8 h
end Go.Fw.L07
