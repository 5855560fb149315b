/- Small codes. -/
import Derived.Test.YtldjkoidjigjpaaGreatDoorFd
import Derived.Test.YtldjkoidjigjpaaGreatDoorProg
set_option linter.all false
namespace Go.Fw.L07
open Go Go.Fw
open Go.Proofs.Tryz renaming prog -> QP
open Go.Proofs.Tryz (f101 f129 f151 f171 f182 f183 func101 func129 func151 func171 func182 func183)
open Go.Fw.MO renaming op -> Qa,chk -> Qb,opx -> Qc
open Go.Fw.MOp renaming mv -> Qd,bin -> Qe,load -> Qf,fad -> Qg,call -> Qh,ext -> Qi,iad -> Qj,len -> Qk,store -> Ql,pick -> Qm
open Go.Fw.Opd renaming t -> Qn,c -> Qo
open Go.Fw.V renaming one -> Qp
open Go.Fw.A renaming d -> Qq
open Go.Fw.D renaming int -> Qr,bool -> Qs
open Go.Fw.Leaf renaming i -> Qt
open Go.IntKind renaming i64 -> Qu
open Option renaming some -> Qv
def f101_r0:List MO:=[Qa (Qv 1) (MOp.ibox (Qn 0)),Qa (Qv 2) (Qd (Qo (Qp (Qq (Qs false)))))]
def f101_c0:MC:=.reg false f101_r0
def f101_r1:List MO:=[Qa (Qv 3) (Qg 0 (Qn 1)),Qa (Qv 4) (Qf 1 false (Qn 3))]
def f101_c1:MC:=.reg false f101_r1
def f101_r2:List MO:=[Qa (Qv 6) (Qe Qt Go.BinOp.eql (Qn 4) (Qo (Qp (Qq (Qr Qu 0))))),Qa (Qv 5) (Qd (Qn 6))]
def f101_c2:MC:=.reg false f101_r2
def f101_r3:List MO:=[Qa (Qv 7) (Qg 1 (Qn 1)),Qa (Qv 8) (Qf 1 false (Qn 7)),Qa (Qv 9) (Qe Qt Go.BinOp.eql (Qn 8) (Qo (Qp (Qq (Qr Qu 0))))),Qa (Qv 10) (Qd (Qn 9)),Qb 10 true (Qv 11),Qa (Qv 11) (Qg 2 (Qn 1)),Qb 10 true (Qv 12),Qa (Qv 12) (Qf 1 false (Qn 11)),Qb 10 true (Qv 13),Qa (Qv 13) (Qe Leaf.s Go.BinOp.eql (Qn 12) (Qo (Qp (Qq (D.str (ByteArray.mk #[])))))),Qa (Qv 14) (Qm (Qn 10) (Qn 13) (Qo (Qp (Qq (Qs false))))),Qa (Qv 2) (Qd (Qn 14))]
def f101_c3:MC:=.reg false f101_r3
def f101_c4:MC:=MC.ret
def f101_c5:MC:=.seq f101_c3 f101_c4
def f101_r6:List MO:=[Qa (Qv 16) (Qe Qt Go.BinOp.eql (Qn 4) (Qo (Qp (Qq (Qr Qu 1))))),Qa (Qv 15) (Qd (Qn 16))]
def f101_c6:MC:=.reg false f101_r6
def f101_r7:List MO:=[Qa (Qv 17) (Qg 1 (Qn 1)),Qa (Qv 18) (Qf 1 false (Qn 17)),Qa (Qv 19) (Qe Qt Go.BinOp.eql (Qn 18) (Qo (Qp (Qq (Qr Qu 0))))),Qa (Qv 20) (Qd (Qn 19)),Qb 20 false (Qv 21),Qa (Qv 21) (Qg 1 (Qn 1)),Qb 20 false (Qv 22),Qa (Qv 22) (Qf 1 false (Qn 21)),Qb 20 false (Qv 23),Qa (Qv 23) (Qe Qt Go.BinOp.eql (Qn 22) (Qo (Qp (Qq (Qr Qu 1))))),Qa (Qv 24) (Qm (Qn 20) (Qo (Qp (Qq (Qs true)))) (Qn 23)),Qa (Qv 25) (Qd (Qn 24)),Qb 25 true (Qv 26),Qa (Qv 26) (Qg 2 (Qn 1)),Qb 25 true (Qv 27),Qa (Qv 27) (Qf 1 false (Qn 26)),Qb 25 true (Qv 28),Qa (Qv 28) (Qe Leaf.s Go.BinOp.eql (Qn 27) (Qo (Qp (Qq (D.str (ByteArray.mk #[])))))),Qa (Qv 29) (Qm (Qn 25) (Qn 28) (Qo (Qp (Qq (Qs false))))),Qa (Qv 2) (Qd (Qn 29))]
def f101_c7:MC:=.reg false f101_r7
def f101_c8:MC:=MC.ret
def f101_c9:MC:=.seq f101_c7 f101_c8
def f101_r10:List MO:=[Qa (Qv 31) (Qe Qt Go.BinOp.eql (Qn 4) (Qo (Qp (Qq (Qr Qu 2))))),Qa (Qv 30) (Qd (Qn 31))]
def f101_c10:MC:=.reg false f101_r10
def f101_r11:List MO:=[Qa (Qv 32) (Qg 1 (Qn 1)),Qa (Qv 33) (Qf 1 false (Qn 32)),Qa (Qv 34) (Qe Qt Go.BinOp.geq (Qn 33) (Qo (Qp (Qq (Qr Qu (-999999999999999)))))),Qa (Qv 35) (Qd (Qn 34)),Qb 35 true (Qv 36),Qa (Qv 36) (Qg 1 (Qn 1)),Qb 35 true (Qv 37),Qa (Qv 37) (Qf 1 false (Qn 36)),Qb 35 true (Qv 38),Qa (Qv 38) (Qe Qt Go.BinOp.leq (Qn 37) (Qo (Qp (Qq (Qr Qu 999999999999999))))),Qa (Qv 39) (Qm (Qn 35) (Qn 38) (Qo (Qp (Qq (Qs false))))),Qa (Qv 40) (Qd (Qn 39)),Qb 40 true (Qv 41),Qa (Qv 41) (Qg 2 (Qn 1)),Qb 40 true (Qv 42),Qa (Qv 42) (Qf 1 false (Qn 41)),Qb 40 true (Qv 43),Qa (Qv 43) (Qe Leaf.s Go.BinOp.eql (Qn 42) (Qo (Qp (Qq (D.str (ByteArray.mk #[])))))),Qa (Qv 44) (Qm (Qn 40) (Qn 43) (Qo (Qp (Qq (Qs false))))),Qa (Qv 2) (Qd (Qn 44))]
def f101_c11:MC:=.reg false f101_r11
def f101_c12:MC:=MC.ret
def f101_c13:MC:=.seq f101_c11 f101_c12
def f101_r14:List MO:=[Qa (Qv 46) (Qe Qt Go.BinOp.eql (Qn 4) (Qo (Qp (Qq (Qr Qu 3))))),Qa (Qv 45) (Qd (Qn 46))]
def f101_c14:MC:=.reg false f101_r14
def f101_r15:List MO:=[Qa (Qv 47) (Qg 1 (Qn 1)),Qa (Qv 48) (Qf 1 false (Qn 47)),Qa (Qv 49) (Qe Qt Go.BinOp.eql (Qn 48) (Qo (Qp (Qq (Qr Qu 0))))),Qa (Qv 50) (Qd (Qn 49)),Qb 50 true (Qv 51),Qa (Qv 51) (Qg 2 (Qn 1)),Qb 50 true (Qv 52),Qa (Qv 52) (Qf 1 false (Qn 51)),Qb 50 true (Qv 53),Qa (Qv 53) (Qh 129 [(Qn 52)]),Qa (Qv 54) (Qm (Qn 50) (Qn 53) (Qo (Qp (Qq (Qs false))))),Qa (Qv 2) (Qd (Qn 54))]
def f101_c15:MC:=.reg false f101_r15
def f101_c16:MC:=MC.ret
def f101_c17:MC:=.seq f101_c15 f101_c16
def f101_c18:MC:=MC.skip
def f101_c19:MC:=.cond (Qn 45) f101_c17 f101_c18
def f101_c20:MC:=.seq f101_c14 f101_c19
def f101_c21:MC:=.cond (Qn 30) f101_c13 f101_c20
def f101_c22:MC:=.seq f101_c10 f101_c21
def f101_c23:MC:=.cond (Qn 15) f101_c9 f101_c22
def f101_c24:MC:=.seq f101_c6 f101_c23
def f101_c25:MC:=.cond (Qn 5) f101_c5 f101_c24
def f101_c26:MC:=.seq f101_c2 f101_c25
def f101_c27:MC:=.blk 0 f101_c26
def f101_c28:MC:=.seq f101_c1 f101_c27
def f101_r29:List MO:=[Qa (Qv 2) (Qd (Qo (Qp (Qq (Qs false)))))]
def f101_c29:MC:=.reg false f101_r29
def f101_c30:MC:=MC.ret
def f101_c31:MC:=.seq f101_c29 f101_c30
def f101_c32:MC:=.seq f101_c28 f101_c31
def f101_c33:MC:=.seq f101_c0 f101_c32
attribute [go_sem] f101_r0 f101_r1 f101_r2 f101_r3 f101_r6 f101_r7 f101_r10 f101_r11 f101_r14 f101_r15 f101_r29
noncomputable def f101_code : Code := (f101.body).getD .skip
theorem f101_body : f101.body = Qv f101_code := by kernel_rfl
theorem f101_tr : trC QP [1] f101_code = Qv f101_c33 := by kernel_rfl
theorem f101_rs : rsOf QP f101.results.toList = Qv [(RV.t 2)] := by kernel_rfl
theorem f101_nt : f101.ntmps = 55 := by kernel_rfl
theorem f101_ok : callable QP 101 = true := by kernel_rfl
theorem f101_in {gp : Heap} {args : List V} {res : V} (h : G ⟨QP,gp,0,[(RV.t 2)],fun r c => r = res /\ c = [],false⟩ [.code f101_c33,.fin] ⟨args ++ List.replicate (55 - args.length) .un,[]⟩) : Does QP gp 101 args res :=
 does_intro f101_ok func101 f101_body f101_tr f101_rs (by rw [f101_nt]; exact h)
def f129_r0:List MO:=[Qa (Qv 2) (Qd (Qo (Qp (Qq (Qs false)))))]
def f129_c0:MC:=.reg false f129_r0
def f129_r1:List MO:=[Qa (Qv 6) (Qd (Qn 0)),Qa (Qv 7) (Qh 151 [(Qn 6)]),Qa (Qv 5) (Qd (Qn 7)),Qa (Qv 8) (Qi (Qn 5) 0),Qa (Qv 9) (Qi (Qn 5) 1),Qa (Qv 3) (Qd (Qn 8)),Qa (Qv 4) (Qd (Qn 9))]
def f129_c1:MC:=.reg false f129_r1
def f129_r2:List MO:=[Qa (Qv 10) (Qd (Qn 4)),Qa (Qv 11) (Qe Qt Go.BinOp.eql (Qn 10) (Qo (Qp (Qq (Qr Qu 0))))),Qa (Qv 2) (Qd (Qn 11))]
def f129_c2:MC:=.reg false f129_r2
def f129_c3:MC:=MC.ret
def f129_c4:MC:=.seq f129_c2 f129_c3
def f129_c5:MC:=.seq f129_c1 f129_c4
def f129_c6:MC:=.seq f129_c0 f129_c5
attribute [go_sem] f129_r0 f129_r1 f129_r2
noncomputable def f129_code : Code := (f129.body).getD .skip
theorem f129_body : f129.body = Qv f129_code := by kernel_rfl
theorem f129_tr : trC QP [] f129_code = Qv f129_c6 := by kernel_rfl
theorem f129_rs : rsOf QP f129.results.toList = Qv [(RV.t 2)] := by kernel_rfl
theorem f129_nt : f129.ntmps = 12 := by kernel_rfl
theorem f129_ok : callable QP 129 = true := by kernel_rfl
theorem f129_in {gp : Heap} {args : List V} {res : V} (h : G ⟨QP,gp,0,[(RV.t 2)],fun r c => r = res /\ c = [],false⟩ [.code f129_c6,.fin] ⟨args ++ List.replicate (12 - args.length) .un,[]⟩) : Does QP gp 129 args res :=
 does_intro f129_ok func129 f129_body f129_tr f129_rs (by rw [f129_nt]; exact h)
def f151_r0:List MO:=[Qa (Qv 2) (Qd (Qo (Qp A.nil))),Qa (Qv 3) (Qd (Qo (Qp (Qq (Qr Qu 0)))))]
def f151_c0:MC:=.reg false f151_r0
def f151_r1:List MO:=[Qa (Qv 4) (Qd (Qo (Qp A.nil)))]
def f151_c1:MC:=.reg false f151_r1
def f151_r2:List MO:=[Qa (Qv 5) (Qd (Qo (Qp (Qq (Qr Qu 0)))))]
def f151_c2:MC:=.reg false f151_r2
def f151_r3:List MO:=[Qa (Qv 8) (Qd (Qn 5)),Qa (Qv 9) (Qd (Qn 0)),Qa (Qv 10) (Qk Leaf.s (Qn 9)),Qa (Qv 11) (Qe Qt Go.BinOp.lss (Qn 8) (Qn 10))]
def f151_c3:MC:=.reg false f151_r3
def f151_c4:MC:=MC.skip
def f151_c5:MC:=(MC.exit 0)
def f151_c6:MC:=.cond (Qn 11) f151_c4 f151_c5
def f151_c7:MC:=.seq f151_c3 f151_c6
def f151_r8:List MO:=[Qa (Qv 13) (Qd (Qn 0)),Qa (Qv 14) (Qd (Qn 5)),Qa (Qv 15) (Qh 171 [(Qn 13),(Qn 14)]),Qa (Qv 12) (Qd (Qn 15)),Qa (Qv 16) (Qi (Qn 12) 0),Qa (Qv 17) (Qi (Qn 12) 1),Qa (Qv 6) (Qd (Qn 16)),Qa (Qv 7) (Qd (Qn 17))]
def f151_c8:MC:=.reg false f151_r8
def f151_r9:List MO:=[Qa (Qv 18) (Qd (Qn 7)),Qa (Qv 19) (Qe Qt Go.BinOp.eql (Qn 18) (Qo (Qp (Qq (Qr Qu 0)))))]
def f151_c9:MC:=.reg false f151_r9
def f151_r10:List MO:=[Qa (Qv 2) (Qd (Qo (Qp A.nil))),Qa (Qv 3) (Qd (Qo (Qp (Qq (Qr Qu 40)))))]
def f151_c10:MC:=.reg false f151_r10
def f151_c11:MC:=MC.ret
def f151_c12:MC:=.seq f151_c10 f151_c11
def f151_c13:MC:=MC.skip
def f151_c14:MC:=.cond (Qn 19) f151_c12 f151_c13
def f151_c15:MC:=.seq f151_c9 f151_c14
def f151_r16:List MO:=[Qa (Qv 20) (Qd (Qn 4)),Qa (Qv 21) (Qd (Qn 6)),Qa (Qv 22) (MOp.bslice 1 [(Qr Qu 0)] 1 [(0,(Qn 21))]),Qa (Qv 23) (MOp.app 3 1 8 (Qn 20) (Qn 22)),Qa (Qv 4) (Qd (Qn 23))]
def f151_c16:MC:=.reg false f151_r16
def f151_r17:List MO:=[Qa (Qv 24) (Qd (Qn 5)),Qa (Qv 25) (Qd (Qn 7)),Qa (Qv 26) (Qe Qt Go.BinOp.add (Qn 24) (Qn 25)),Qa (Qv 5) (Qd (Qn 26))]
def f151_c17:MC:=.reg false f151_r17
def f151_c18:MC:=.seq f151_c16 f151_c17
def f151_c19:MC:=.seq f151_c15 f151_c18
def f151_c20:MC:=.seq f151_c8 f151_c19
def f151_c21:MC:=.blk 1 f151_c20
def f151_c22:MC:=.seq f151_c7 f151_c21
def f151_c23:MC:=.loop f151_c22
def f151_c24:MC:=.blk 0 f151_c23
def f151_r25:List MO:=[Qa (Qv 27) (Qd (Qn 4)),Qa (Qv 2) (Qd (Qn 27)),Qa (Qv 3) (Qd (Qo (Qp (Qq (Qr Qu 0)))))]
def f151_c25:MC:=.reg false f151_r25
def f151_c26:MC:=MC.ret
def f151_c27:MC:=.seq f151_c25 f151_c26
def f151_c28:MC:=.seq f151_c24 f151_c27
def f151_c29:MC:=.seq f151_c2 f151_c28
def f151_c30:MC:=.seq f151_c1 f151_c29
def f151_c31:MC:=.seq f151_c0 f151_c30
attribute [go_sem] f151_r0 f151_r1 f151_r2 f151_r3 f151_r8 f151_r9 f151_r10 f151_r16 f151_r17
noncomputable def f151_code : Code := (f151.body).getD .skip
theorem f151_body : f151.body = Qv f151_code := by kernel_rfl
theorem f151_tr : trC QP [] f151_code = Qv f151_c31 := by kernel_rfl
theorem f151_rs : rsOf QP f151.results.toList = Qv [(RV.t 2),(RV.t 3)] := by kernel_rfl
theorem f151_nt : f151.ntmps = 28 := by kernel_rfl
theorem f151_ok : callable QP 151 = true := by kernel_rfl
theorem f151_in {gp : Heap} {args : List V} {res : V} (h : G ⟨QP,gp,0,[(RV.t 2),(RV.t 3)],fun r c => r = res /\ c = [],false⟩ [.code f151_c31,.fin] ⟨args ++ List.replicate (28 - args.length) .un,[]⟩) : Does QP gp 151 args res :=
 does_intro f151_ok func151 f151_body f151_tr f151_rs (by rw [f151_nt]; exact h)
def f171_r0:List MO:=[Qa (Qv 4) (Qd (Qo (Qp (Qq (Qr Qu 0))))),Qa (Qv 5) (Qd (Qo (Qp (Qq (Qr Qu 0)))))]
def f171_c0:MC:=.reg false f171_r0
def f171_r1:List MO:=[Qa (Qv 9) (Qd (Qn 0)),Qa (Qv 10) (Qd (Qn 1)),Qa (Qv 11) (MOp.idxS (Qn 9) (Qn 10)),Qa (Qv 12) (MOp.conv Qu (Qn 11)),Qa (Qv 6) (Qd (Qn 12))]
def f171_c1:MC:=.reg false f171_r1
def f171_r2:List MO:=[Qa (Qv 7) (Qd (Qo (Qp (Qq (Qr Qu 1)))))]
def f171_c2:MC:=.reg false f171_r2
def f171_r3:List MO:=[Qa (Qv 13) (Qd (Qn 6)),Qa (Qv 14) (Qe Qt Go.BinOp.geq (Qn 13) (Qo (Qp (Qq (Qr Qu 240)))))]
def f171_c3:MC:=.reg false f171_r3
def f171_r4:List MO:=[Qa (Qv 7) (Qd (Qo (Qp (Qq (Qr Qu 4)))))]
def f171_c4:MC:=.reg false f171_r4
def f171_r5:List MO:=[Qa (Qv 15) (Qd (Qn 6)),Qa (Qv 16) (Qe Qt Go.BinOp.sub (Qn 15) (Qo (Qp (Qq (Qr Qu 240))))),Qa (Qv 6) (Qd (Qn 16))]
def f171_c5:MC:=.reg false f171_r5
def f171_c6:MC:=.seq f171_c4 f171_c5
def f171_r7:List MO:=[Qa (Qv 17) (Qd (Qn 6)),Qa (Qv 18) (Qe Qt Go.BinOp.geq (Qn 17) (Qo (Qp (Qq (Qr Qu 224)))))]
def f171_c7:MC:=.reg false f171_r7
def f171_r8:List MO:=[Qa (Qv 7) (Qd (Qo (Qp (Qq (Qr Qu 3)))))]
def f171_c8:MC:=.reg false f171_r8
def f171_r9:List MO:=[Qa (Qv 19) (Qd (Qn 6)),Qa (Qv 20) (Qe Qt Go.BinOp.sub (Qn 19) (Qo (Qp (Qq (Qr Qu 224))))),Qa (Qv 6) (Qd (Qn 20))]
def f171_c9:MC:=.reg false f171_r9
def f171_c10:MC:=.seq f171_c8 f171_c9
def f171_r11:List MO:=[Qa (Qv 21) (Qd (Qn 6)),Qa (Qv 22) (Qe Qt Go.BinOp.geq (Qn 21) (Qo (Qp (Qq (Qr Qu 192)))))]
def f171_c11:MC:=.reg false f171_r11
def f171_r12:List MO:=[Qa (Qv 7) (Qd (Qo (Qp (Qq (Qr Qu 2)))))]
def f171_c12:MC:=.reg false f171_r12
def f171_r13:List MO:=[Qa (Qv 23) (Qd (Qn 6)),Qa (Qv 24) (Qe Qt Go.BinOp.sub (Qn 23) (Qo (Qp (Qq (Qr Qu 192))))),Qa (Qv 6) (Qd (Qn 24))]
def f171_c13:MC:=.reg false f171_r13
def f171_c14:MC:=.seq f171_c12 f171_c13
def f171_c15:MC:=MC.skip
def f171_c16:MC:=.cond (Qn 22) f171_c14 f171_c15
def f171_c17:MC:=.seq f171_c11 f171_c16
def f171_c18:MC:=.cond (Qn 18) f171_c10 f171_c17
def f171_c19:MC:=.seq f171_c7 f171_c18
def f171_c20:MC:=.cond (Qn 14) f171_c6 f171_c19
def f171_c21:MC:=.seq f171_c3 f171_c20
def f171_r22:List MO:=[Qa (Qv 25) (Qd (Qn 7)),Qa (Qv 26) (Qd (Qn 0)),Qa (Qv 27) (Qk Leaf.s (Qn 26)),Qa (Qv 28) (Qd (Qn 1)),Qa (Qv 29) (Qe Qt Go.BinOp.sub (Qn 27) (Qn 28)),Qa (Qv 30) (Qe Qt Go.BinOp.gtr (Qn 25) (Qn 29))]
def f171_c22:MC:=.reg false f171_r22
def f171_r23:List MO:=[Qa (Qv 4) (Qd (Qo (Qp (Qq (Qr Qu 0))))),Qa (Qv 5) (Qd (Qo (Qp (Qq (Qr Qu 0)))))]
def f171_c23:MC:=.reg false f171_r23
def f171_c24:MC:=MC.ret
def f171_c25:MC:=.seq f171_c23 f171_c24
def f171_c26:MC:=MC.skip
def f171_c27:MC:=.cond (Qn 30) f171_c25 f171_c26
def f171_c28:MC:=.seq f171_c22 f171_c27
def f171_r29:List MO:=[Qa (Qv 8) (Qd (Qo (Qp (Qq (Qr Qu 1)))))]
def f171_c29:MC:=.reg false f171_r29
def f171_r30:List MO:=[Qa (Qv 31) (Qd (Qn 8)),Qa (Qv 32) (Qd (Qn 7)),Qa (Qv 33) (Qe Qt Go.BinOp.lss (Qn 31) (Qn 32))]
def f171_c30:MC:=.reg false f171_r30
def f171_c31:MC:=MC.skip
def f171_c32:MC:=(MC.exit 0)
def f171_c33:MC:=.cond (Qn 33) f171_c31 f171_c32
def f171_c34:MC:=.seq f171_c30 f171_c33
def f171_r35:List MO:=[Qa (Qv 36) (Qd (Qn 6)),Qa (Qv 37) (Qe Qt Go.BinOp.mul (Qo (Qp (Qq (Qr Qu 64)))) (Qn 36)),Qa (Qv 38) (Qd (Qn 0)),Qa (Qv 39) (Qd (Qn 1)),Qa (Qv 40) (Qd (Qn 8)),Qa (Qv 41) (Qe Qt Go.BinOp.add (Qn 39) (Qn 40)),Qa (Qv 42) (MOp.idxS (Qn 38) (Qn 41)),Qa (Qv 43) (MOp.conv Qu (Qn 42)),Qa (Qv 44) (Qe Qt Go.BinOp.rem (Qn 43) (Qo (Qp (Qq (Qr Qu 64))))),Qa (Qv 45) (Qe Qt Go.BinOp.add (Qn 37) (Qn 44)),Qa (Qv 6) (Qd (Qn 45))]
def f171_c35:MC:=.reg false f171_r35
def f171_c36:MC:=.blk 1 f171_c35
def f171_r37:List MO:=[Qa (Qv 34) (Qd (Qn 8)),Qa (Qv 35) (Qe Qt Go.BinOp.add (Qn 34) (Qo (Qp (Qq (Qr Qu 1))))),Qa (Qv 8) (Qd (Qn 35))]
def f171_c37:MC:=.reg false f171_r37
def f171_c38:MC:=.seq f171_c36 f171_c37
def f171_c39:MC:=.seq f171_c34 f171_c38
def f171_c40:MC:=.loop f171_c39
def f171_c41:MC:=.blk 0 f171_c40
def f171_c42:MC:=.seq f171_c29 f171_c41
def f171_r43:List MO:=[Qa (Qv 46) (Qd (Qn 6)),Qc (Qv 47) (Qh 182 [(Qn 46)]),Qa (Qv 48) (MOp.not (Qn 47)),Qa (Qv 49) (Qd (Qn 48)),Qb 49 false (Qv 50),Qa (Qv 50) (Qd (Qn 6)),Qb 49 false (Qv 51),Qc (Qv 51) (Qh 183 [(Qn 50)]),Qb 49 false (Qv 52),Qa (Qv 52) (Qd (Qn 0)),Qb 49 false (Qv 53),Qa (Qv 53) (Qd (Qn 1)),Qb 49 false (Qv 54),Qa (Qv 54) (Qd (Qn 1)),Qb 49 false (Qv 55),Qa (Qv 55) (Qd (Qn 7)),Qb 49 false (Qv 56),Qa (Qv 56) (Qe Qt Go.BinOp.add (Qn 54) (Qn 55)),Qb 49 false (Qv 57),Qa (Qv 57) (MOp.slcS (Qn 52) (Qv (Qn 53)) (Qv (Qn 56))),Qb 49 false (Qv 58),Qa (Qv 58) (Qe Leaf.s Go.BinOp.neq (Qn 51) (Qn 57)),Qa (Qv 59) (Qm (Qn 49) (Qo (Qp (Qq (Qs true)))) (Qn 58))]
def f171_c43:MC:=.reg true f171_r43
def f171_r44:List MO:=[Qa (Qv 4) (Qd (Qo (Qp (Qq (Qr Qu 0))))),Qa (Qv 5) (Qd (Qo (Qp (Qq (Qr Qu 0)))))]
def f171_c44:MC:=.reg false f171_r44
def f171_c45:MC:=MC.ret
def f171_c46:MC:=.seq f171_c44 f171_c45
def f171_c47:MC:=MC.skip
def f171_c48:MC:=.cond (Qn 59) f171_c46 f171_c47
def f171_c49:MC:=.seq f171_c43 f171_c48
def f171_r50:List MO:=[Qa (Qv 60) (Qd (Qn 6)),Qa (Qv 61) (Qd (Qn 7)),Qa (Qv 4) (Qd (Qn 60)),Qa (Qv 5) (Qd (Qn 61))]
def f171_c50:MC:=.reg false f171_r50
def f171_c51:MC:=MC.ret
def f171_c52:MC:=.seq f171_c50 f171_c51
def f171_c53:MC:=.seq f171_c49 f171_c52
def f171_c54:MC:=.seq f171_c42 f171_c53
def f171_c55:MC:=.seq f171_c28 f171_c54
def f171_c56:MC:=.seq f171_c21 f171_c55
def f171_c57:MC:=.seq f171_c2 f171_c56
def f171_c58:MC:=.seq f171_c1 f171_c57
def f171_c59:MC:=.seq f171_c0 f171_c58
attribute [go_sem] f171_r0 f171_r1 f171_r2 f171_r3 f171_r4 f171_r5 f171_r7 f171_r8 f171_r9 f171_r11 f171_r12 f171_r13 f171_r22 f171_r23 f171_r29 f171_r30 f171_r35 f171_r37 f171_r43 f171_r44 f171_r50
noncomputable def f171_code : Code := (f171.body).getD .skip
theorem f171_body : f171.body = Qv f171_code := by kernel_rfl
theorem f171_tr : trC QP [] f171_code = Qv f171_c59 := by kernel_rfl
theorem f171_rs : rsOf QP f171.results.toList = Qv [(RV.t 4),(RV.t 5)] := by kernel_rfl
theorem f171_nt : f171.ntmps = 62 := by kernel_rfl
theorem f171_ok : callable QP 171 = true := by kernel_rfl
theorem f171_in {gp : Heap} {args : List V} {res : V} (h : G ⟨QP,gp,0,[(RV.t 4),(RV.t 5)],fun r c => r = res /\ c = [],false⟩ [.code f171_c59,.fin] ⟨args ++ List.replicate (62 - args.length) .un,[]⟩) : Does QP gp 171 args res :=
 does_intro f171_ok func171 f171_body f171_tr f171_rs (by rw [f171_nt]; exact h)
def f182_r0:List MO:=[Qa (Qv 2) (Qd (Qo (Qp (Qq (Qs false)))))]
def f182_c0:MC:=.reg false f182_r0
def f182_r1:List MO:=[Qa (Qv 3) (Qd (Qn 0)),Qa (Qv 4) (Qe Qt Go.BinOp.geq (Qn 3) (Qo (Qp (Qq (Qr Qu 0))))),Qa (Qv 5) (Qd (Qn 4)),Qb 5 true (Qv 6),Qa (Qv 6) (Qd (Qn 0)),Qb 5 true (Qv 7),Qa (Qv 7) (Qe Qt Go.BinOp.leq (Qn 6) (Qo (Qp (Qq (Qr Qu 1114111))))),Qa (Qv 8) (Qm (Qn 5) (Qn 7) (Qo (Qp (Qq (Qs false))))),Qa (Qv 9) (Qd (Qn 8)),Qb 9 true (Qv 10),Qa (Qv 10) (Qd (Qn 0)),Qb 9 true (Qv 11),Qa (Qv 11) (Qe Qt Go.BinOp.lss (Qn 10) (Qo (Qp (Qq (Qr Qu 55296))))),Qb 9 true (Qv 12),Qa (Qv 12) (Qd (Qn 11)),Qb 12 false (Qv 13),Qa (Qv 13) (Qd (Qn 0)),Qb 12 false (Qv 14),Qa (Qv 14) (Qe Qt Go.BinOp.gtr (Qn 13) (Qo (Qp (Qq (Qr Qu 57343))))),Qb 9 true (Qv 15),Qa (Qv 15) (Qm (Qn 12) (Qo (Qp (Qq (Qs true)))) (Qn 14)),Qa (Qv 16) (Qm (Qn 9) (Qn 15) (Qo (Qp (Qq (Qs false))))),Qa (Qv 2) (Qd (Qn 16))]
def f182_c1:MC:=.reg false f182_r1
def f182_c2:MC:=MC.ret
def f182_c3:MC:=.seq f182_c1 f182_c2
def f182_c4:MC:=.seq f182_c0 f182_c3
attribute [go_sem] f182_r0 f182_r1
noncomputable def f182_code : Code := (f182.body).getD .skip
theorem f182_body : f182.body = Qv f182_code := by kernel_rfl
theorem f182_tr : trC QP [] f182_code = Qv f182_c4 := by kernel_rfl
theorem f182_rs : rsOf QP f182.results.toList = Qv [(RV.t 2)] := by kernel_rfl
theorem f182_nt : f182.ntmps = 17 := by kernel_rfl
theorem f182_ok : callable QP 182 = true := by kernel_rfl
theorem f182_in {gp : Heap} {args : List V} {res : V} (h : G ⟨QP,gp,0,[(RV.t 2)],fun r c => r = res /\ c = [],false⟩ [.code f182_c4,.fin] ⟨args ++ List.replicate (17 - args.length) .un,[]⟩) : Does QP gp 182 args res :=
 does_intro f182_ok func182 f182_body f182_tr f182_rs (by rw [f182_nt]; exact h)
def f183_r0:List MO:=[Qa (Qv 2) (Qd (Qo (Qp (Qq (D.str (ByteArray.mk #[]))))))]
def f183_c0:MC:=.reg false f183_r0
def f183_r1:List MO:=[Qa (Qv 3) (Qd (Qn 0)),Qa (Qv 4) (Qe Qt Go.BinOp.lss (Qn 3) (Qo (Qp (Qq (Qr Qu 128)))))]
def f183_c1:MC:=.reg false f183_r1
def f183_r2:List MO:=[Qa (Qv 5) (Qd (Qn 0)),Qa (Qv 6) (MOp.conv Go.IntKind.u8 (Qn 5)),Qa (Qv 7) (MOp.bslice 1 [(Qr Go.IntKind.u8 0)] 1 [(0,(Qn 6))]),Qa (Qv 8) (MOp.strB (Qn 7)),Qa (Qv 2) (Qd (Qn 8))]
def f183_c2:MC:=.reg false f183_r2
def f183_c3:MC:=MC.ret
def f183_c4:MC:=.seq f183_c2 f183_c3
def f183_c5:MC:=MC.skip
def f183_c6:MC:=.cond (Qn 4) f183_c4 f183_c5
def f183_c7:MC:=.seq f183_c1 f183_c6
def f183_r8:List MO:=[Qa (Qv 9) (Qd (Qn 0)),Qa (Qv 10) (Qe Qt Go.BinOp.lss (Qn 9) (Qo (Qp (Qq (Qr Qu 2048)))))]
def f183_c8:MC:=.reg false f183_r8
def f183_r9:List MO:=[Qa (Qv 11) (Qd (Qn 0)),Qa (Qv 12) (Qe Qt Go.BinOp.quo (Qn 11) (Qo (Qp (Qq (Qr Qu 64))))),Qa (Qv 13) (Qe Qt Go.BinOp.add (Qo (Qp (Qq (Qr Qu 192)))) (Qn 12)),Qa (Qv 14) (MOp.conv Go.IntKind.u8 (Qn 13)),Qa (Qv 15) (Qd (Qn 0)),Qa (Qv 16) (Qe Qt Go.BinOp.rem (Qn 15) (Qo (Qp (Qq (Qr Qu 64))))),Qa (Qv 17) (Qe Qt Go.BinOp.add (Qo (Qp (Qq (Qr Qu 128)))) (Qn 16)),Qa (Qv 18) (MOp.conv Go.IntKind.u8 (Qn 17)),Qa (Qv 19) (MOp.bslice 1 [(Qr Go.IntKind.u8 0)] 2 [(0,(Qn 14)),(1,(Qn 18))]),Qa (Qv 20) (MOp.strB (Qn 19)),Qa (Qv 2) (Qd (Qn 20))]
def f183_c9:MC:=.reg false f183_r9
def f183_c10:MC:=MC.ret
def f183_c11:MC:=.seq f183_c9 f183_c10
def f183_c12:MC:=MC.skip
def f183_c13:MC:=.cond (Qn 10) f183_c11 f183_c12
def f183_c14:MC:=.seq f183_c8 f183_c13
def f183_r15:List MO:=[Qa (Qv 21) (Qd (Qn 0)),Qa (Qv 22) (Qe Qt Go.BinOp.lss (Qn 21) (Qo (Qp (Qq (Qr Qu 65536)))))]
def f183_c15:MC:=.reg false f183_r15
def f183_r16:List MO:=[Qa (Qv 23) (Qd (Qn 0)),Qa (Qv 24) (Qe Qt Go.BinOp.quo (Qn 23) (Qo (Qp (Qq (Qr Qu 4096))))),Qa (Qv 25) (Qe Qt Go.BinOp.add (Qo (Qp (Qq (Qr Qu 224)))) (Qn 24)),Qa (Qv 26) (MOp.conv Go.IntKind.u8 (Qn 25)),Qa (Qv 27) (Qd (Qn 0)),Qa (Qv 28) (Qe Qt Go.BinOp.quo (Qn 27) (Qo (Qp (Qq (Qr Qu 64))))),Qa (Qv 29) (Qe Qt Go.BinOp.rem (Qn 28) (Qo (Qp (Qq (Qr Qu 64))))),Qa (Qv 30) (Qe Qt Go.BinOp.add (Qo (Qp (Qq (Qr Qu 128)))) (Qn 29)),Qa (Qv 31) (MOp.conv Go.IntKind.u8 (Qn 30)),Qa (Qv 32) (Qd (Qn 0)),Qa (Qv 33) (Qe Qt Go.BinOp.rem (Qn 32) (Qo (Qp (Qq (Qr Qu 64))))),Qa (Qv 34) (Qe Qt Go.BinOp.add (Qo (Qp (Qq (Qr Qu 128)))) (Qn 33)),Qa (Qv 35) (MOp.conv Go.IntKind.u8 (Qn 34)),Qa (Qv 36) (MOp.bslice 1 [(Qr Go.IntKind.u8 0)] 3 [(0,(Qn 26)),(1,(Qn 31)),(2,(Qn 35))]),Qa (Qv 37) (MOp.strB (Qn 36)),Qa (Qv 2) (Qd (Qn 37))]
def f183_c16:MC:=.reg false f183_r16
def f183_c17:MC:=MC.ret
def f183_c18:MC:=.seq f183_c16 f183_c17
def f183_c19:MC:=MC.skip
def f183_c20:MC:=.cond (Qn 22) f183_c18 f183_c19
def f183_c21:MC:=.seq f183_c15 f183_c20
def f183_r22:List MO:=[Qa (Qv 38) (Qd (Qn 0)),Qa (Qv 39) (Qe Qt Go.BinOp.quo (Qn 38) (Qo (Qp (Qq (Qr Qu 262144))))),Qa (Qv 40) (Qe Qt Go.BinOp.add (Qo (Qp (Qq (Qr Qu 240)))) (Qn 39)),Qa (Qv 41) (MOp.conv Go.IntKind.u8 (Qn 40)),Qa (Qv 42) (Qd (Qn 0)),Qa (Qv 43) (Qe Qt Go.BinOp.quo (Qn 42) (Qo (Qp (Qq (Qr Qu 4096))))),Qa (Qv 44) (Qe Qt Go.BinOp.rem (Qn 43) (Qo (Qp (Qq (Qr Qu 64))))),Qa (Qv 45) (Qe Qt Go.BinOp.add (Qo (Qp (Qq (Qr Qu 128)))) (Qn 44)),Qa (Qv 46) (MOp.conv Go.IntKind.u8 (Qn 45)),Qa (Qv 47) (Qd (Qn 0)),Qa (Qv 48) (Qe Qt Go.BinOp.quo (Qn 47) (Qo (Qp (Qq (Qr Qu 64))))),Qa (Qv 49) (Qe Qt Go.BinOp.rem (Qn 48) (Qo (Qp (Qq (Qr Qu 64))))),Qa (Qv 50) (Qe Qt Go.BinOp.add (Qo (Qp (Qq (Qr Qu 128)))) (Qn 49)),Qa (Qv 51) (MOp.conv Go.IntKind.u8 (Qn 50)),Qa (Qv 52) (Qd (Qn 0)),Qa (Qv 53) (Qe Qt Go.BinOp.rem (Qn 52) (Qo (Qp (Qq (Qr Qu 64))))),Qa (Qv 54) (Qe Qt Go.BinOp.add (Qo (Qp (Qq (Qr Qu 128)))) (Qn 53)),Qa (Qv 55) (MOp.conv Go.IntKind.u8 (Qn 54)),Qa (Qv 56) (MOp.bslice 1 [(Qr Go.IntKind.u8 0)] 4 [(0,(Qn 41)),(1,(Qn 46)),(2,(Qn 51)),(3,(Qn 55))]),Qa (Qv 57) (MOp.strB (Qn 56)),Qa (Qv 2) (Qd (Qn 57))]
def f183_c22:MC:=.reg false f183_r22
def f183_c23:MC:=MC.ret
def f183_c24:MC:=.seq f183_c22 f183_c23
def f183_c25:MC:=.seq f183_c21 f183_c24
def f183_c26:MC:=.seq f183_c14 f183_c25
def f183_c27:MC:=.seq f183_c7 f183_c26
def f183_c28:MC:=.seq f183_c0 f183_c27
attribute [go_sem] f183_r0 f183_r1 f183_r2 f183_r8 f183_r9 f183_r15 f183_r16 f183_r22
noncomputable def f183_code : Code := (f183.body).getD .skip
theorem f183_body : f183.body = Qv f183_code := by kernel_rfl
theorem f183_tr : trC QP [] f183_code = Qv f183_c28 := by kernel_rfl
theorem f183_rs : rsOf QP f183.results.toList = Qv [(RV.t 2)] := by kernel_rfl
theorem f183_nt : f183.ntmps = 58 := by kernel_rfl
theorem f183_ok : callable QP 183 = true := by kernel_rfl
theorem f183_in {gp : Heap} {args : List V} {res : V} (h : G ⟨QP,gp,0,[(RV.t 2)],fun r c => r = res /\ c = [],false⟩ [.code f183_c28,.fin] ⟨args ++ List.replicate (58 - args.length) .un,[]⟩) : Does QP gp 183 args res :=
 does_intro f183_ok func183 f183_body f183_tr f183_rs (by rw [f183_nt]; exact h)
end Go.Fw.L07
