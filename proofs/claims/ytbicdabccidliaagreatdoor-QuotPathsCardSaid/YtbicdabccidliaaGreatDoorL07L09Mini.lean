/- Small codes. -/
import Derived.Test.YtbicdabccidliaaGreatDoorFd
import Derived.Test.YtbicdabccidliaaGreatDoorProg
set_option linter.all false
namespace Go.Fw.L07
open Go Go.Fw
open Go.Proofs.Tryz renaming prog -> QP
open Go.Proofs.Tryz (f17 func17)
open Go.Fw.MO renaming op -> Qa,chk -> Qb,opx -> Qc
open Go.Fw.MOp renaming mv -> Qd,bin -> Qe,load -> Qf,fad -> Qg,call -> Qh,ext -> Qi,iad -> Qj,len -> Qk,store -> Ql,pick -> Qm
open Go.Fw.Opd renaming t -> Qn,c -> Qo
open Go.Fw.V renaming one -> Qp
open Go.Fw.A renaming d -> Qq
open Go.Fw.D renaming int -> Qr,bool -> Qs
open Go.Fw.Leaf renaming i -> Qt
open Go.IntKind renaming i64 -> Qu
open Option renaming some -> Qv
def f17_r0:List MO:=[Qa (Qv 2) (MOp.ibox (Qn 0)),Qa (Qv 4) (MOp.alloc [(Qr Qu 0),(D.sl [])])]
def f17_c0:MC:=.reg false f17_r0
def f17_r1:List MO:=[Qa (Qv 5) (Qg 1 (Qn 2)),Qa (Qv 6) (Qf 1 false (Qn 5)),Qa (Qv 7) (Qk Qt (Qn 6)),Qa (Qv 8) (Qd (Qn 1)),Qa (Qv 9) (Qe Qt Go.BinOp.gtr (Qn 7) (Qn 8))]
def f17_c1:MC:=.reg false f17_r1
def f17_r2:List MO:=[Qa (Qv 10) (MOp.build [(Qr Qu 0),(D.sl [])] [(0,(1,(Qo (Qp (Qq (Qr Qu (-1)))))))]),Qa none (Ql 2 (Qn 4) (Qn 10))]
def f17_c2:MC:=.reg false f17_r2
def f17_c3:MC:=MC.ret
def f17_c4:MC:=.seq f17_c2 f17_c3
def f17_c5:MC:=MC.skip
def f17_c6:MC:=.cond (Qn 9) f17_c4 f17_c5
def f17_c7:MC:=.seq f17_c1 f17_c6
def f17_r8:List MO:=[Qa (Qv 11) (Qf 2 true (Qn 2)),Qa (Qv 12) (Qh 41 [(Qn 11)]),Qa none (Ql 2 (Qn 4) (Qn 12))]
def f17_c8:MC:=.reg false f17_r8
def f17_c9:MC:=MC.ret
def f17_c10:MC:=.seq f17_c8 f17_c9
def f17_c11:MC:=.seq f17_c7 f17_c10
def f17_c12:MC:=.seq f17_c0 f17_c11
attribute [go_sem] f17_r0 f17_r1 f17_r2 f17_r8
noncomputable def f17_code : Code := (f17.body).getD .skip
theorem f17_body : f17.body = Qv f17_code := by kernel_rfl
theorem f17_tr : trC QP [2] f17_code = Qv f17_c12 := by kernel_rfl
theorem f17_rs : rsOf QP f17.results.toList = Qv [(RV.cell 4 2 true)] := by kernel_rfl
theorem f17_nt : f17.ntmps = 13 := by kernel_rfl
theorem f17_ok : callable QP 17 = true := by kernel_rfl
theorem f17_in {gp : Heap} {args : List V} {res : V} (h : G ⟨QP,gp,0,[(RV.cell 4 2 true)],fun r c => r = res /\ c = [],false⟩ [.code f17_c12,.fin] ⟨args ++ List.replicate (13 - args.length) .un,[]⟩) : Does QP gp 17 args res :=
 does_intro f17_ok func17 f17_body f17_tr f17_rs (by rw [f17_nt]; exact h)
end Go.Fw.L07
