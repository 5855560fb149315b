/- Small codes. -/
import Derived.Test.YtbicdabccidliaaGreatDoorFd
import Derived.Test.YtbicdabccidliaaGreatDoorProg
set_option linter.all false
namespace Go.Fw.L07
open Go Go.Fw
open Go.Proofs.Tryz renaming prog -> QP
open Go.Proofs.Tryz (f118 f119 f27 f36 f39 f66 f67 f75 f95 func118 func119 func27 func36 func39 func66 func67 func75 func95)
open Go.Fw.MO renaming op -> Qa,chk -> Qb,opx -> Qc
open Go.Fw.MOp renaming mv -> Qd,bin -> Qe,load -> Qf,fad -> Qg,call -> Qh,ext -> Qi,iad -> Qj,len -> Qk,store -> Ql,pick -> Qm
open Go.Fw.Opd renaming t -> Qn,c -> Qo
open Go.Fw.V renaming one -> Qp
open Go.Fw.A renaming d -> Qq
open Go.Fw.D renaming int -> Qr,bool -> Qs
open Go.Fw.Leaf renaming i -> Qt
open Go.IntKind renaming i64 -> Qu
open Option renaming some -> Qv
def f27_r0:List MO:=[Qa (Qv 2) (MOp.ibox (Qn 0)),Qa (Qv 4) (Qd (Qo (Qp (Qq (Qr Qu 0))))),Qa (Qv 5) (Qd (Qo (Qp (Qq (Qs false)))))]
def f27_c0:MC:=.reg false f27_r0
def f27_r1:List MO:=[Qa (Qv 14) (Qf 2 true (Qn 2)),Qa (Qv 15) (Qh 37 [(Qn 14)]),Qa (Qv 13) (Qd (Qn 15)),Qa (Qv 16) (Qi (Qn 13) 0),Qa (Qv 17) (Qi (Qn 13) 1),Qa (Qv 6) (Qd (Qn 16)),Qa (Qv 7) (Qd (Qn 17))]
def f27_c1:MC:=.reg false f27_r1
def f27_r2:List MO:=[Qa (Qv 18) (Qd (Qn 7)),Qa (Qv 19) (Qe Qt Go.BinOp.neq (Qn 18) (Qo (Qp (Qq (Qr Qu 0)))))]
def f27_c2:MC:=.reg false f27_r2
def f27_r3:List MO:=[Qa (Qv 4) (Qd (Qo (Qp (Qq (Qr Qu 0))))),Qa (Qv 5) (Qd (Qo (Qp (Qq (Qs false)))))]
def f27_c3:MC:=.reg false f27_r3
def f27_c4:MC:=MC.ret
def f27_c5:MC:=.seq f27_c3 f27_c4
def f27_c6:MC:=MC.skip
def f27_c7:MC:=.cond (Qn 19) f27_c5 f27_c6
def f27_c8:MC:=.seq f27_c2 f27_c7
def f27_c9:MC:=.seq f27_c1 f27_c8
def f27_r10:List MO:=[Qa (Qv 20) (Qg 0 (Qn 2)),Qa (Qv 21) (Qf 1 false (Qn 20)),Qa (Qv 8) (Qd (Qn 21))]
def f27_c10:MC:=.reg false f27_r10
def f27_r11:List MO:=[Qa (Qv 22) (Qd (Qn 1)),Qa (Qv 23) (Qk Qt (Qn 22)),Qa (Qv 24) (Qd (Qo (Qp (Qq (Qr Qu 0)))))]
def f27_c11:MC:=.reg false f27_r11
def f27_r12:List MO:=[Qa (Qv 25) (Qe Qt Go.BinOp.lss (Qn 24) (Qn 23))]
def f27_c12:MC:=.reg false f27_r12
def f27_c13:MC:=MC.skip
def f27_c14:MC:=(MC.exit 0)
def f27_c15:MC:=.cond (Qn 25) f27_c13 f27_c14
def f27_r16:List MO:=[Qa (Qv 26) (Qj 1 (Qn 22) (Qn 24)),Qa (Qv 27) (Qf 1 false (Qn 26)),Qa (Qv 10) (Qd (Qn 27))]
def f27_c16:MC:=.reg false f27_r16
def f27_r17:List MO:=[Qa (Qv 29) (Qf 2 true (Qn 2)),Qa (Qv 30) (Qd (Qn 8)),Qa (Qv 31) (Qh 25 [(Qn 29),(Qn 30)]),Qa (Qv 28) (Qd (Qn 31)),Qa (Qv 32) (Qi (Qn 28) 0),Qa (Qv 33) (Qi (Qn 28) 1),Qa (Qv 11) (Qd (Qn 32)),Qa (Qv 12) (Qd (Qn 33))]
def f27_c17:MC:=.reg false f27_r17
def f27_r18:List MO:=[Qa (Qv 34) (Qd (Qn 10)),Qa (Qv 35) (Qe Qt Go.BinOp.lss (Qn 34) (Qo (Qp (Qq (Qr Qu 0))))),Qa (Qv 36) (Qd (Qn 35)),Qb 36 false (Qv 37),Qa (Qv 37) (Qd (Qn 10)),Qb 36 false (Qv 38),Qa (Qv 38) (Qd (Qn 11)),Qb 36 false (Qv 39),Qa (Qv 39) (Qk Qt (Qn 38)),Qb 36 false (Qv 40),Qa (Qv 40) (Qe Qt Go.BinOp.geq (Qn 37) (Qn 39)),Qa (Qv 41) (Qm (Qn 36) (Qo (Qp (Qq (Qs true)))) (Qn 40))]
def f27_c18:MC:=.reg false f27_r18
def f27_r19:List MO:=[Qa (Qv 4) (Qd (Qo (Qp (Qq (Qr Qu 0))))),Qa (Qv 5) (Qd (Qo (Qp (Qq (Qs false)))))]
def f27_c19:MC:=.reg false f27_r19
def f27_c20:MC:=MC.ret
def f27_c21:MC:=.seq f27_c19 f27_c20
def f27_c22:MC:=MC.skip
def f27_c23:MC:=.cond (Qn 41) f27_c21 f27_c22
def f27_c24:MC:=.seq f27_c18 f27_c23
def f27_r25:List MO:=[Qa (Qv 42) (Qd (Qn 11)),Qa (Qv 43) (Qd (Qn 10)),Qa (Qv 44) (Qj 1 (Qn 42) (Qn 43)),Qa (Qv 45) (Qf 1 false (Qn 44)),Qa (Qv 8) (Qd (Qn 45))]
def f27_c25:MC:=.reg false f27_r25
def f27_c26:MC:=.seq f27_c24 f27_c25
def f27_c27:MC:=.seq f27_c17 f27_c26
def f27_c28:MC:=.seq f27_c16 f27_c27
def f27_c29:MC:=.blk 1 f27_c28
def f27_r30:List MO:=[Qa (Qv 46) (Qe Qt Go.BinOp.add (Qn 24) (Qo (Qp (Qq (Qr Qu 1))))),Qa (Qv 24) (Qd (Qn 46))]
def f27_c30:MC:=.reg false f27_r30
def f27_c31:MC:=.seq f27_c29 f27_c30
def f27_c32:MC:=.seq f27_c15 f27_c31
def f27_c33:MC:=.seq f27_c12 f27_c32
def f27_c34:MC:=.loop f27_c33
def f27_c35:MC:=.blk 0 f27_c34
def f27_c36:MC:=.seq f27_c11 f27_c35
def f27_r37:List MO:=[Qa (Qv 47) (Qd (Qn 8)),Qa (Qv 4) (Qd (Qn 47)),Qa (Qv 5) (Qd (Qo (Qp (Qq (Qs true)))))]
def f27_c37:MC:=.reg false f27_r37
def f27_c38:MC:=MC.ret
def f27_c39:MC:=.seq f27_c37 f27_c38
def f27_c40:MC:=.seq f27_c36 f27_c39
def f27_c41:MC:=.seq f27_c10 f27_c40
def f27_c42:MC:=.seq f27_c9 f27_c41
def f27_c43:MC:=.seq f27_c0 f27_c42
attribute [go_sem] f27_r0 f27_r1 f27_r2 f27_r3 f27_r10 f27_r11 f27_r12 f27_r16 f27_r17 f27_r18 f27_r19 f27_r25 f27_r30 f27_r37
noncomputable def f27_code : Code := (f27.body).getD .skip
theorem f27_body : f27.body = Qv f27_code := by kernel_rfl
theorem f27_tr : trC QP [2] f27_code = Qv f27_c43 := by kernel_rfl
theorem f27_rs : rsOf QP f27.results.toList = Qv [(RV.t 4),(RV.t 5)] := by kernel_rfl
theorem f27_nt : f27.ntmps = 48 := by kernel_rfl
theorem f27_ok : callable QP 27 = true := by kernel_rfl
theorem f27_in {gp : Heap} {args : List V} {res : V} (h : G ⟨QP,gp,0,[(RV.t 4),(RV.t 5)],fun r c => r = res /\ c = [],false⟩ [.code f27_c43,.fin] ⟨args ++ List.replicate (48 - args.length) .un,[]⟩) : Does QP gp 27 args res :=
 does_intro f27_ok func27 f27_body f27_tr f27_rs (by rw [f27_nt]; exact h)
def f36_r0:List MO:=[Qa (Qv 1) (MOp.ibox (Qn 0)),Qa (Qv 2) (Qd (Qo (Qp A.nil))),Qa (Qv 3) (Qd (Qo (Qp (Qq (Qr Qu 0)))))]
def f36_c0:MC:=.reg false f36_r0
def f36_r1:List MO:=[Qa (Qv 7) (Qf 2 true (Qn 1)),Qa (Qv 8) (Qh 37 [(Qn 7)]),Qa (Qv 6) (Qd (Qn 8)),Qa (Qv 9) (Qi (Qn 6) 0),Qa (Qv 10) (Qi (Qn 6) 1),Qa (Qv 4) (Qd (Qn 9)),Qa (Qv 5) (Qd (Qn 10))]
def f36_c1:MC:=.reg false f36_r1
def f36_r2:List MO:=[Qa (Qv 11) (Qd (Qn 5)),Qa (Qv 12) (Qe Qt Go.BinOp.neq (Qn 11) (Qo (Qp (Qq (Qr Qu 0)))))]
def f36_c2:MC:=.reg false f36_r2
def f36_r3:List MO:=[Qa (Qv 13) (Qd (Qn 5)),Qa (Qv 2) (Qd (Qo (Qp A.nil))),Qa (Qv 3) (Qd (Qn 13))]
def f36_c3:MC:=.reg false f36_r3
def f36_c4:MC:=MC.ret
def f36_c5:MC:=.seq f36_c3 f36_c4
def f36_c6:MC:=MC.skip
def f36_c7:MC:=.cond (Qn 12) f36_c5 f36_c6
def f36_c8:MC:=.seq f36_c2 f36_c7
def f36_c9:MC:=.seq f36_c1 f36_c8
def f36_r10:List MO:=[Qa (Qv 14) (Qf 2 true (Qn 1)),Qa (Qv 15) (Qh 66 [(Qn 14)]),Qa (Qv 16) (Qh 67 [(Qn 15)]),Qa (Qv 2) (Qd (Qn 16)),Qa (Qv 3) (Qd (Qo (Qp (Qq (Qr Qu 0)))))]
def f36_c10:MC:=.reg false f36_r10
def f36_c11:MC:=MC.ret
def f36_c12:MC:=.seq f36_c10 f36_c11
def f36_c13:MC:=.seq f36_c9 f36_c12
def f36_c14:MC:=.seq f36_c0 f36_c13
attribute [go_sem] f36_r0 f36_r1 f36_r2 f36_r3
noncomputable def f36_code : Code := (f36.body).getD .skip
theorem f36_body : f36.body = Qv f36_code := by kernel_rfl
theorem f36_tr : trC QP [1] f36_code = Qv f36_c14 := by kernel_rfl
theorem f36_rs : rsOf QP f36.results.toList = Qv [(RV.t 2),(RV.t 3)] := by kernel_rfl
theorem f36_nt : f36.ntmps = 17 := by kernel_rfl
theorem f36_ok : callable QP 36 = true := by kernel_rfl
theorem f36_in {gp : Heap} {args : List V} {res : V} (h : G ⟨QP,gp,0,[(RV.t 2),(RV.t 3)],fun r c => r = res /\ c = [],false⟩ [.code f36_c14,.fin] ⟨args ++ List.replicate (17 - args.length) .un,[]⟩) : Does QP gp 36 args res :=
 does_intro f36_ok func36 f36_body f36_tr f36_rs (by rw [f36_nt]; exact h)
def f39_r0:List MO:=[Qa (Qv 1) (MOp.ibox (Qn 0)),Qa (Qv 2) (MOp.alloc [(Qr Qu 0),(D.sl [])]),Qa (Qv 3) (Qd (Qo (Qp (Qq (Qr Qu 0)))))]
def f39_c0:MC:=.reg false f39_r0
def f39_r1:List MO:=[Qa (Qv 14) (Qf 2 true (Qn 1)),Qa (Qv 15) (Qh 37 [(Qn 14)]),Qa (Qv 13) (Qd (Qn 15)),Qa (Qv 16) (Qi (Qn 13) 0),Qa (Qv 17) (Qi (Qn 13) 1),Qa (Qv 4) (Qd (Qn 16)),Qa (Qv 5) (Qd (Qn 17))]
def f39_c1:MC:=.reg false f39_r1
def f39_r2:List MO:=[Qa (Qv 18) (Qd (Qn 5)),Qa (Qv 19) (Qe Qt Go.BinOp.neq (Qn 18) (Qo (Qp (Qq (Qr Qu 0)))))]
def f39_c2:MC:=.reg false f39_r2
def f39_r3:List MO:=[Qa (Qv 20) (MOp.build [(Qr Qu 0),(D.sl [])] []),Qa (Qv 21) (Qd (Qn 5)),Qa none (Ql 2 (Qn 2) (Qn 20)),Qa (Qv 3) (Qd (Qn 21))]
def f39_c3:MC:=.reg false f39_r3
def f39_c4:MC:=MC.ret
def f39_c5:MC:=.seq f39_c3 f39_c4
def f39_c6:MC:=MC.skip
def f39_c7:MC:=.cond (Qn 19) f39_c5 f39_c6
def f39_c8:MC:=.seq f39_c2 f39_c7
def f39_c9:MC:=.seq f39_c1 f39_c8
def f39_r10:List MO:=[Qa (Qv 22) (Qf 2 true (Qn 1)),Qa (Qv 23) (Qh 66 [(Qn 22)]),Qa (Qv 6) (Qd (Qn 23))]
def f39_c10:MC:=.reg false f39_r10
def f39_r11:List MO:=[Qa (Qv 7) (MOp.alloc [(Qr Qu 0),(D.sl [])])]
def f39_c11:MC:=.reg false f39_r11
def f39_r12:List MO:=[Qa (Qv 24) (Qd (Qn 6)),Qa (Qv 25) (Qh 67 [(Qn 24)]),Qa (Qv 26) (Qk Qt (Qn 25)),Qa (Qv 27) (Qd (Qo (Qp (Qq (Qr Qu 0)))))]
def f39_c12:MC:=.reg false f39_r12
def f39_r13:List MO:=[Qa (Qv 28) (Qe Qt Go.BinOp.lss (Qn 27) (Qn 26))]
def f39_c13:MC:=.reg false f39_r13
def f39_c14:MC:=MC.skip
def f39_c15:MC:=(MC.exit 0)
def f39_c16:MC:=.cond (Qn 28) f39_c14 f39_c15
def f39_r17:List MO:=[Qa (Qv 29) (Qj 1 (Qn 25) (Qn 27)),Qa (Qv 30) (Qf 1 false (Qn 29)),Qa (Qv 9) (Qd (Qn 30))]
def f39_c17:MC:=.reg false f39_r17
def f39_r18:List MO:=[Qa (Qv 31) (Qg 1 (Qn 1)),Qa (Qv 32) (Qf 1 false (Qn 31)),Qa (Qv 33) (Qd (Qn 9)),Qa (Qv 34) (Qj 6 (Qn 32) (Qn 33)),Qa (Qv 35) (Qg 0 (Qn 34)),Qa (Qv 36) (Qf 1 false (Qn 35)),Qa (Qv 37) (Qg 1 (Qn 1)),Qa (Qv 38) (Qf 1 false (Qn 37)),Qa (Qv 39) (Qd (Qn 9)),Qa (Qv 40) (Qj 6 (Qn 38) (Qn 39)),Qa (Qv 41) (Qg 1 (Qn 40)),Qa (Qv 42) (Qf 3 true (Qn 41)),Qa (Qv 43) (MOp.build [(Qr Qu 0),(Qr Qu 0),(Qr Qu 0),(D.str (ByteArray.mk #[])),(D.sl []),(D.sl [])] [(0,(1,(Qn 36))),(1,(3,(Qn 42)))]),Qa (Qv 10) (MOp.alloc [(Qr Qu 0),(Qr Qu 0),(Qr Qu 0),(D.str (ByteArray.mk #[])),(D.sl []),(D.sl [])]),Qa none (Ql 6 (Qn 10) (Qn 43))]
def f39_c18:MC:=.reg true f39_r18
def f39_r19:List MO:=[Qa (Qv 45) (Qf 2 true (Qn 1)),Qa (Qv 46) (Qd (Qn 9)),Qa (Qv 47) (Qh 74 [(Qn 45),(Qn 46)]),Qa (Qv 44) (Qd (Qn 47)),Qa (Qv 48) (Qi (Qn 44) 0),Qa (Qv 49) (Qi (Qn 44) 1),Qa (Qv 50) (Qg 4 (Qn 10)),Qa none (Ql 1 (Qn 50) (Qn 48))]
def f39_c19:MC:=.reg false f39_r19
def f39_r20:List MO:=[Qa (Qv 52) (Qf 2 true (Qn 1)),Qa (Qv 53) (Qd (Qn 9)),Qa (Qv 54) (Qh 25 [(Qn 52),(Qn 53)]),Qa (Qv 51) (Qd (Qn 54)),Qa (Qv 55) (Qi (Qn 51) 0),Qa (Qv 56) (Qi (Qn 51) 1),Qa (Qv 11) (Qd (Qn 55)),Qa (Qv 12) (Qd (Qn 56))]
def f39_c20:MC:=.reg false f39_r20
def f39_r21:List MO:=[Qa (Qv 57) (Qd (Qn 6)),Qa (Qv 58) (Qd (Qn 11)),Qa (Qv 59) (Qh 75 [(Qn 57),(Qn 58)]),Qa (Qv 60) (Qg 5 (Qn 10)),Qa none (Ql 1 (Qn 60) (Qn 59))]
def f39_c21:MC:=.reg false f39_r21
def f39_r22:List MO:=[Qa (Qv 61) (Qg 1 (Qn 7)),Qa (Qv 62) (Qf 1 false (Qn 61)),Qa (Qv 63) (Qf 6 true (Qn 10)),Qa (Qv 64) (MOp.bslice 6 [(Qr Qu 0),(Qr Qu 0),(Qr Qu 0),(D.str (ByteArray.mk #[])),(D.sl []),(D.sl [])] 1 [(0,(Qn 63))]),Qa (Qv 65) (MOp.app 44 6 88 (Qn 62) (Qn 64)),Qa (Qv 66) (Qg 1 (Qn 7)),Qa none (Ql 1 (Qn 66) (Qn 65))]
def f39_c22:MC:=.reg false f39_r22
def f39_c23:MC:=.seq f39_c21 f39_c22
def f39_c24:MC:=.seq f39_c20 f39_c23
def f39_c25:MC:=.seq f39_c19 f39_c24
def f39_c26:MC:=.seq f39_c18 f39_c25
def f39_c27:MC:=.seq f39_c17 f39_c26
def f39_c28:MC:=.blk 1 f39_c27
def f39_r29:List MO:=[Qa (Qv 67) (Qe Qt Go.BinOp.add (Qn 27) (Qo (Qp (Qq (Qr Qu 1))))),Qa (Qv 27) (Qd (Qn 67))]
def f39_c29:MC:=.reg false f39_r29
def f39_c30:MC:=.seq f39_c28 f39_c29
def f39_c31:MC:=.seq f39_c16 f39_c30
def f39_c32:MC:=.seq f39_c13 f39_c31
def f39_c33:MC:=.loop f39_c32
def f39_c34:MC:=.blk 0 f39_c33
def f39_c35:MC:=.seq f39_c12 f39_c34
def f39_r36:List MO:=[Qa (Qv 68) (Qf 2 true (Qn 7)),Qa none (Ql 2 (Qn 2) (Qn 68)),Qa (Qv 3) (Qd (Qo (Qp (Qq (Qr Qu 0)))))]
def f39_c36:MC:=.reg false f39_r36
def f39_c37:MC:=MC.ret
def f39_c38:MC:=.seq f39_c36 f39_c37
def f39_c39:MC:=.seq f39_c35 f39_c38
def f39_c40:MC:=.seq f39_c11 f39_c39
def f39_c41:MC:=.seq f39_c10 f39_c40
def f39_c42:MC:=.seq f39_c9 f39_c41
def f39_c43:MC:=.seq f39_c0 f39_c42
attribute [go_sem] f39_r0 f39_r1 f39_r2 f39_r3 f39_r11 f39_r12 f39_r13 f39_r17 f39_r18 f39_r19 f39_r20 f39_r21 f39_r22 f39_r29 f39_r36
noncomputable def f39_code : Code := (f39.body).getD .skip
theorem f39_body : f39.body = Qv f39_code := by kernel_rfl
theorem f39_tr : trC QP [1] f39_code = Qv f39_c43 := by kernel_rfl
theorem f39_rs : rsOf QP f39.results.toList = Qv [(RV.cell 2 2 true),(RV.t 3)] := by kernel_rfl
theorem f39_nt : f39.ntmps = 69 := by kernel_rfl
theorem f39_ok : callable QP 39 = true := by kernel_rfl
theorem f39_in {gp : Heap} {args : List V} {res : V} (h : G ⟨QP,gp,0,[(RV.cell 2 2 true),(RV.t 3)],fun r c => r = res /\ c = [],false⟩ [.code f39_c43,.fin] ⟨args ++ List.replicate (69 - args.length) .un,[]⟩) : Does QP gp 39 args res :=
 does_intro f39_ok func39 f39_body f39_tr f39_rs (by rw [f39_nt]; exact h)
def f66_r0:List MO:=[Qa (Qv 1) (MOp.ibox (Qn 0)),Qa (Qv 2) (Qd (Qo (Qp (Qq D.nilP))))]
def f66_c0:MC:=.reg false f66_r0
def f66_r1:List MO:=[Qa (Qv 3) (Qf 2 true (Qn 1)),Qa (Qv 4) MOp.mkM,Qa (Qv 5) (MOp.build [(Qr Qu 0),(D.sl []),(D.raw (Go.Value.map none))] [(0,(2,(Qn 3))),(2,(1,(Qn 4)))]),Qa (Qv 6) (MOp.box (Qn 5)),Qa (Qv 2) (Qd (Qn 6))]
def f66_c1:MC:=.reg false f66_r1
def f66_c2:MC:=MC.ret
def f66_c3:MC:=.seq f66_c1 f66_c2
def f66_c4:MC:=.seq f66_c0 f66_c3
attribute [go_sem] f66_r0 f66_r1
noncomputable def f66_code : Code := (f66.body).getD .skip
theorem f66_body : f66.body = Qv f66_code := by kernel_rfl
theorem f66_tr : trC QP [1] f66_code = Qv f66_c4 := by kernel_rfl
theorem f66_rs : rsOf QP f66.results.toList = Qv [(RV.t 2)] := by kernel_rfl
theorem f66_nt : f66.ntmps = 7 := by kernel_rfl
theorem f66_ok : callable QP 66 = true := by kernel_rfl
theorem f66_tri {gp : Heap} {args : List V} {pre : List Ch} {R : V -> List Ch -> Prop} (h : G ⟨QP,gp,pre.length,[(RV.t 2)],R,false⟩ [.code f66_c4,.fin] ⟨args ++ List.replicate (7 - args.length) .un,pre⟩) : Tri QP gp 66 args pre R :=
 tri_intro func66 f66_body f66_tr f66_rs (by rw [f66_nt]; exact h)
def f67_r0:List MO:=[Qa (Qv 2) (Qd (Qo (Qp A.nil)))]
def f67_c0:MC:=.reg false f67_r0
def f67_r1:List MO:=[Qa (Qv 3) (MOp.alloc [(D.sl [])])]
def f67_c1:MC:=.reg false f67_r1
def f67_r2:List MO:=[Qa (Qv 5) (Qd (Qn 0)),Qa (Qv 6) (Qh 95 [(Qn 5)])]
def f67_c2:MC:=.reg false f67_r2
def f67_r3:List MO:=[Qa (Qv 4) (Qd (Qn 7))]
def f67_c3:MC:=.reg false f67_r3
def f67_r4:List MO:=[Qa (Qv 8) (Qf 1 false (Qn 3)),Qa (Qv 9) (Qd (Qn 4)),Qa (Qv 10) (MOp.bslice 1 [(Qr Qu 0)] 1 [(0,(Qn 9))]),Qa (Qv 11) (MOp.app 3 1 8 (Qn 8) (Qn 10)),Qa none (Ql 1 (Qn 3) (Qn 11))]
def f67_c4:MC:=.reg false f67_r4
def f67_c5:MC:=.blk 1 f67_c4
def f67_c6:MC:=.rf (Qn 6) [7] f67_c3 f67_c5
def f67_c7:MC:=.blk 0 f67_c6
def f67_c8:MC:=.seq f67_c2 f67_c7
def f67_r9:List MO:=[Qa (Qv 12) (Qf 1 false (Qn 3)),Qa (Qv 2) (Qd (Qn 12))]
def f67_c9:MC:=.reg false f67_r9
def f67_c10:MC:=MC.ret
def f67_c11:MC:=.seq f67_c9 f67_c10
def f67_c12:MC:=.seq f67_c8 f67_c11
def f67_c13:MC:=.seq f67_c1 f67_c12
def f67_c14:MC:=.seq f67_c0 f67_c13
attribute [go_sem] f67_r0 f67_r1 f67_r2 f67_r3 f67_r4 f67_r9
noncomputable def f67_code : Code := (f67.body).getD .skip
theorem f67_body : f67.body = Qv f67_code := by kernel_rfl
theorem f67_tr : trC QP [] f67_code = Qv f67_c14 := by kernel_rfl
theorem f67_rs : rsOf QP f67.results.toList = Qv [(RV.t 2)] := by kernel_rfl
theorem f67_nt : f67.ntmps = 13 := by kernel_rfl
theorem f67_ok : callable QP 67 = true := by kernel_rfl
theorem f67_tri {gp : Heap} {args : List V} {pre : List Ch} {R : V -> List Ch -> Prop} (h : G ⟨QP,gp,pre.length,[(RV.t 2)],R,false⟩ [.code f67_c14,.fin] ⟨args ++ List.replicate (13 - args.length) .un,pre⟩) : Tri QP gp 67 args pre R :=
 tri_intro func67 f67_body f67_tr f67_rs (by rw [f67_nt]; exact h)
def f75_r0:List MO:=[Qa (Qv 4) (Qd (Qo (Qp A.nil)))]
def f75_c0:MC:=.reg false f75_r0
def f75_r1:List MO:=[Qa (Qv 8) (Qd (Qn 1)),Qa (Qv 9) (Qk Qt (Qn 8)),Qa (Qv 10) (MOp.mkS 1 8 [(Qr Qu 0)] (Qn 9)),Qa (Qv 5) (Qd (Qn 10))]
def f75_c1:MC:=.reg false f75_r1
def f75_r2:List MO:=[Qa (Qv 11) (Qd (Qn 5)),Qa (Qv 12) (Qd (Qn 1)),Qa (Qv 13) (MOp.cpy 1 (Qn 11) (Qn 12))]
def f75_c2:MC:=.reg false f75_r2
def f75_r3:List MO:=[Qa (Qv 14) (Qd (Qn 5)),Qa (Qv 15) (Qk Qt (Qn 14)),Qa (Qv 16) (Qd (Qo (Qp (Qq (Qr Qu 0)))))]
def f75_c3:MC:=.reg false f75_r3
def f75_r4:List MO:=[Qa (Qv 17) (Qe Qt Go.BinOp.lss (Qn 16) (Qn 15))]
def f75_c4:MC:=.reg false f75_r4
def f75_c5:MC:=MC.skip
def f75_c6:MC:=(MC.exit 0)
def f75_c7:MC:=.cond (Qn 17) f75_c5 f75_c6
def f75_r8:List MO:=[Qa (Qv 18) (Qd (Qn 16)),Qa (Qv 19) (Qj 1 (Qn 14) (Qn 16)),Qa (Qv 20) (Qf 1 false (Qn 19)),Qa (Qv 6) (Qd (Qn 18)),Qa (Qv 7) (Qd (Qn 20))]
def f75_c8:MC:=.reg false f75_r8
def f75_r9:List MO:=[Qa (Qv 21) (Qd (Qn 5)),Qa (Qv 22) (Qd (Qn 6)),Qa (Qv 23) (Qd (Qn 0)),Qa (Qv 24) (MOp.nck (Qn 23)),Qa (Qv 25) (Qg 2 (Qn 24)),Qa (Qv 26) (Qf 1 false (Qn 25)),Qa (Qv 27) (Qd (Qn 7)),Qa (Qv 28) (MOp.lkp false (Qp (Qq (Qr Qu 0))) false [Qt] (Qn 26) (Qn 27)),Qa (Qv 29) (Qj 1 (Qn 21) (Qn 22)),Qa none (Ql 1 (Qn 29) (Qn 28))]
def f75_c9:MC:=.reg false f75_r9
def f75_c10:MC:=.seq f75_c8 f75_c9
def f75_c11:MC:=.blk 1 f75_c10
def f75_r12:List MO:=[Qa (Qv 30) (Qe Qt Go.BinOp.add (Qn 16) (Qo (Qp (Qq (Qr Qu 1))))),Qa (Qv 16) (Qd (Qn 30))]
def f75_c12:MC:=.reg false f75_r12
def f75_c13:MC:=.seq f75_c11 f75_c12
def f75_c14:MC:=.seq f75_c7 f75_c13
def f75_c15:MC:=.seq f75_c4 f75_c14
def f75_c16:MC:=.loop f75_c15
def f75_c17:MC:=.blk 0 f75_c16
def f75_c18:MC:=.seq f75_c3 f75_c17
def f75_r19:List MO:=[Qa (Qv 31) (Qd (Qn 5)),Qa (Qv 4) (Qd (Qn 31))]
def f75_c19:MC:=.reg false f75_r19
def f75_c20:MC:=MC.ret
def f75_c21:MC:=.seq f75_c19 f75_c20
def f75_c22:MC:=.seq f75_c18 f75_c21
def f75_c23:MC:=.seq f75_c2 f75_c22
def f75_c24:MC:=.seq f75_c1 f75_c23
def f75_c25:MC:=.seq f75_c0 f75_c24
attribute [go_sem] f75_r0 f75_r1 f75_r2 f75_r3 f75_r4 f75_r8 f75_r9 f75_r12
noncomputable def f75_code : Code := (f75.body).getD .skip
theorem f75_body : f75.body = Qv f75_code := by kernel_rfl
theorem f75_tr : trC QP [] f75_code = Qv f75_c25 := by kernel_rfl
theorem f75_rs : rsOf QP f75.results.toList = Qv [(RV.t 4)] := by kernel_rfl
theorem f75_nt : f75.ntmps = 32 := by kernel_rfl
theorem f75_ok : callable QP 75 = true := by kernel_rfl
theorem f75_tri {gp : Heap} {args : List V} {pre : List Ch} {R : V -> List Ch -> Prop} (h : G ⟨QP,gp,pre.length,[(RV.t 4)],R,false⟩ [.code f75_c25,.fin] ⟨args ++ List.replicate (32 - args.length) .un,pre⟩) : Tri QP gp 75 args pre R :=
 tri_intro func75 f75_body f75_tr f75_rs (by rw [f75_nt]; exact h)
def f95_r0:List MO:=[Qa (Qv 1) (MOp.box (Qn 0)),Qa (Qv 2) (Qd (Qo (Qp (Qq D.nilF))))]
def f95_c0:MC:=.reg false f95_r0
def f95_r1:List MO:=[Qa (Qv 3) (MOp.mkF (Go.Fn.func 118) [(Qn 1)]),Qa (Qv 2) (Qd (Qn 3))]
def f95_c1:MC:=.reg false f95_r1
def f95_c2:MC:=MC.ret
def f95_c3:MC:=.seq f95_c1 f95_c2
def f95_c4:MC:=.seq f95_c0 f95_c3
attribute [go_sem] f95_r0 f95_r1
noncomputable def f95_code : Code := (f95.body).getD .skip
theorem f95_body : f95.body = Qv f95_code := by kernel_rfl
theorem f95_tr : trC QP [] f95_code = Qv f95_c4 := by kernel_rfl
theorem f95_rs : rsOf QP f95.results.toList = Qv [(RV.t 2)] := by kernel_rfl
theorem f95_nt : f95.ntmps = 4 := by kernel_rfl
theorem f95_ok : callable QP 95 = true := by kernel_rfl
theorem f95_tri {gp : Heap} {args : List V} {pre : List Ch} {R : V -> List Ch -> Prop} (h : G ⟨QP,gp,pre.length,[(RV.t 2)],R,false⟩ [.code f95_c4,.fin] ⟨args ++ List.replicate (4 - args.length) .un,pre⟩) : Tri QP gp 95 args pre R :=
 tri_intro func95 f95_body f95_tr f95_rs (by rw [f95_nt]; exact h)
def f118_r0:List MO:=[Qa (Qv 10) (Qf 1 false (Qn 1)),Qa (Qv 11) (MOp.nck (Qn 10)),Qa (Qv 12) (Qg 0 (Qn 11)),Qa (Qv 13) (Qg 0 (Qn 12)),Qa (Qv 14) (Qf 1 false (Qn 13)),Qa (Qv 15) (MOp.bslO 1 [(Qr Qu 0)] 1 [(0,(Qn 14))]),Qa (Qv 3) (MOp.alloc [(D.sl [])]),Qa none (Ql 1 (Qn 3) (Qn 15))]
def f118_c0:MC:=.reg false f118_r0
def f118_r1:List MO:=[Qa (Qv 16) (MOp.mkF (Go.Fn.func 119) [(Qn 3)]),Qa (Qv 4) (Qd (Qn 16))]
def f118_c1:MC:=.reg false f118_r1
def f118_c2:MC:=MC.skip
def f118_r3:List MO:=[Qa (Qv 17) (Qf 1 false (Qn 3)),Qa (Qv 18) (Qk Qt (Qn 17)),Qa (Qv 19) (Qe Qt Go.BinOp.gtr (Qn 18) (Qo (Qp (Qq (Qr Qu 0)))))]
def f118_c3:MC:=.reg false f118_r3
def f118_c4:MC:=MC.skip
def f118_c5:MC:=(MC.exit 0)
def f118_c6:MC:=.cond (Qn 19) f118_c4 f118_c5
def f118_c7:MC:=.seq f118_c3 f118_c6
def f118_r8:List MO:=[Qa (Qv 20) (Qf 1 false (Qn 3)),Qa (Qv 21) (Qf 1 false (Qn 3)),Qa (Qv 22) (Qk Qt (Qn 21)),Qa (Qv 23) (Qe Qt Go.BinOp.sub (Qn 22) (Qo (Qp (Qq (Qr Qu 1))))),Qa (Qv 24) (Qj 1 (Qn 20) (Qn 23)),Qa (Qv 25) (Qf 1 false (Qn 24)),Qa (Qv 5) (Qd (Qn 25))]
def f118_c8:MC:=.reg false f118_r8
def f118_r9:List MO:=[Qa (Qv 26) (Qf 1 false (Qn 3)),Qa (Qv 27) (Qf 1 false (Qn 3)),Qa (Qv 28) (Qk Qt (Qn 27)),Qa (Qv 29) (Qe Qt Go.BinOp.sub (Qn 28) (Qo (Qp (Qq (Qr Qu 1))))),Qa (Qv 30) (MOp.slc 1 (Qn 26) none (Qv (Qn 29))),Qa none (Ql 1 (Qn 3) (Qn 30))]
def f118_c9:MC:=.reg false f118_r9
def f118_r10:List MO:=[Qa (Qv 32) (Qf 1 false (Qn 1)),Qa (Qv 33) (MOp.nck (Qn 32)),Qa (Qv 34) (Qg 2 (Qn 33)),Qa (Qv 35) (Qf 1 false (Qn 34)),Qa (Qv 36) (Qd (Qn 5)),Qa (Qv 37) (MOp.lkp true (Qp (Qq (Qr Qu 0))) false [Qt] (Qn 35) (Qn 36)),Qa (Qv 31) (Qd (Qn 37)),Qa (Qv 38) (Qi (Qn 31) 0),Qa (Qv 39) (Qi (Qn 31) 1),Qa (Qv 6) (Qd (Qn 38)),Qa (Qv 7) (Qd (Qn 39))]
def f118_c10:MC:=.reg false f118_r10
def f118_r11:List MO:=[Qa (Qv 40) (Qd (Qn 7))]
def f118_c11:MC:=.reg false f118_r11
def f118_c12:MC:=(MC.exit 1)
def f118_c13:MC:=MC.skip
def f118_c14:MC:=.cond (Qn 40) f118_c12 f118_c13
def f118_c15:MC:=.seq f118_c11 f118_c14
def f118_c16:MC:=.seq f118_c10 f118_c15
def f118_r17:List MO:=[Qa (Qv 41) (Qf 1 false (Qn 1)),Qa (Qv 42) (MOp.nck (Qn 41)),Qa (Qv 43) (Qg 2 (Qn 42)),Qa (Qv 44) (Qf 1 false (Qn 43)),Qa (Qv 45) (Qd (Qn 5)),Qa (Qv 46) (Qf 1 false (Qn 1)),Qa (Qv 47) (MOp.nck (Qn 46)),Qa (Qv 48) (Qg 2 (Qn 47)),Qa (Qv 49) (Qf 1 false (Qn 48)),Qa (Qv 50) (Qk Leaf.b (Qn 49)),Qa none (MOp.mupd false [Qt] (Qn 44) (Qn 45) (Qn 50))]
def f118_c17:MC:=.reg true f118_r17
def f118_r18:List MO:=[Qa (Qv 51) (Qd (Qn 0)),Qa (Qv 52) (Qd (Qn 5)),Qa (Qv 53) (MOp.callv (Qn 51) [(Qn 52)]),Qa (Qv 54) (MOp.not (Qn 53))]
def f118_c18:MC:=.reg false f118_r18
def f118_c19:MC:=(MC.exit 0)
def f118_c20:MC:=MC.skip
def f118_c21:MC:=.cond (Qn 54) f118_c19 f118_c20
def f118_c22:MC:=.seq f118_c18 f118_c21
def f118_r23:List MO:=[Qa (Qv 56) (Qf 1 false (Qn 1)),Qa (Qv 57) (MOp.nck (Qn 56)),Qa (Qv 58) (Qg 0 (Qn 57)),Qa (Qv 59) (Qf 2 true (Qn 58)),Qa (Qv 60) (Qd (Qn 5)),Qa (Qv 61) (Qh 25 [(Qn 59),(Qn 60)]),Qa (Qv 55) (Qd (Qn 61)),Qa (Qv 62) (Qi (Qn 55) 0),Qa (Qv 63) (Qi (Qn 55) 1),Qa (Qv 8) (Qd (Qn 62)),Qa (Qv 9) (Qd (Qn 63))]
def f118_c23:MC:=.reg false f118_r23
def f118_r24:List MO:=[Qa (Qv 64) (Qd (Qn 4)),Qa (Qv 65) (Qd (Qn 8)),Qa (Qv 66) (MOp.callv (Qn 64) [(Qn 65)])]
def f118_c24:MC:=.reg false f118_r24
def f118_c25:MC:=.seq f118_c23 f118_c24
def f118_c26:MC:=.seq f118_c22 f118_c25
def f118_c27:MC:=.seq f118_c17 f118_c26
def f118_c28:MC:=.seq f118_c16 f118_c27
def f118_c29:MC:=.seq f118_c9 f118_c28
def f118_c30:MC:=.seq f118_c8 f118_c29
def f118_c31:MC:=.blk 1 f118_c30
def f118_c32:MC:=.seq f118_c7 f118_c31
def f118_c33:MC:=.loop f118_c32
def f118_c34:MC:=.blk 0 f118_c33
def f118_c35:MC:=.seq f118_c2 f118_c34
def f118_c36:MC:=.seq f118_c1 f118_c35
def f118_c37:MC:=.seq f118_c0 f118_c36
def f118_c38:MC:=.scope f118_c37
attribute [go_sem] f118_r0 f118_r1 f118_r3 f118_r8 f118_r9 f118_r10 f118_r11 f118_r17 f118_r18 f118_r23 f118_r24
noncomputable def f118_code : Code := (f118.body).getD .skip
theorem f118_body : f118.body = Qv f118_code := by kernel_rfl
theorem f118_tr : trC QP [15] f118_code = Qv f118_c38 := by kernel_rfl
theorem f118_rs : rsOf QP f118.results.toList = Qv [] := by kernel_rfl
theorem f118_nt : f118.ntmps = 67 := by kernel_rfl
theorem f118_ok : callable QP 118 = true := by kernel_rfl
theorem f118_tri {gp : Heap} {args : List V} {pre : List Ch} {R : V -> List Ch -> Prop} (h : G ⟨QP,gp,pre.length,[],R,false⟩ [.code f118_c38,.fin] ⟨args ++ List.replicate (67 - args.length) .un,pre⟩) : Tri QP gp 118 args pre R :=
 tri_intro func118 f118_body f118_tr f118_rs (by rw [f118_nt]; exact h)
def f119_r0:List MO:=[Qa (Qv 4) (Qd (Qn 0)),Qa (Qv 5) (Qk Qt (Qn 4)),Qa (Qv 6) (Qe Qt Go.BinOp.sub (Qn 5) (Qo (Qp (Qq (Qr Qu 1))))),Qa (Qv 3) (Qd (Qn 6))]
def f119_c0:MC:=.reg false f119_r0
def f119_r1:List MO:=[Qa (Qv 7) (Qd (Qn 3)),Qa (Qv 8) (Qe Qt Go.BinOp.geq (Qn 7) (Qo (Qp (Qq (Qr Qu 0)))))]
def f119_c1:MC:=.reg false f119_r1
def f119_c2:MC:=MC.skip
def f119_c3:MC:=(MC.exit 0)
def f119_c4:MC:=.cond (Qn 8) f119_c2 f119_c3
def f119_c5:MC:=.seq f119_c1 f119_c4
def f119_r6:List MO:=[Qa (Qv 11) (Qf 1 false (Qn 1)),Qa (Qv 12) (Qd (Qn 0)),Qa (Qv 13) (Qd (Qn 3)),Qa (Qv 14) (Qj 1 (Qn 12) (Qn 13)),Qa (Qv 15) (Qf 1 false (Qn 14)),Qa (Qv 16) (MOp.bslice 1 [(Qr Qu 0)] 1 [(0,(Qn 15))]),Qa (Qv 17) (MOp.app 3 1 8 (Qn 11) (Qn 16)),Qa none (Ql 1 (Qn 1) (Qn 17))]
def f119_c6:MC:=.reg true f119_r6
def f119_c7:MC:=.blk 1 f119_c6
def f119_r8:List MO:=[Qa (Qv 9) (Qd (Qn 3)),Qa (Qv 10) (Qe Qt Go.BinOp.sub (Qn 9) (Qo (Qp (Qq (Qr Qu 1))))),Qa (Qv 3) (Qd (Qn 10))]
def f119_c8:MC:=.reg false f119_r8
def f119_c9:MC:=.seq f119_c7 f119_c8
def f119_c10:MC:=.seq f119_c5 f119_c9
def f119_c11:MC:=.loop f119_c10
def f119_c12:MC:=.blk 0 f119_c11
def f119_c13:MC:=.seq f119_c0 f119_c12
attribute [go_sem] f119_r0 f119_r1 f119_r6 f119_r8
noncomputable def f119_code : Code := (f119.body).getD .skip
theorem f119_body : f119.body = Qv f119_code := by kernel_rfl
theorem f119_tr : trC QP [] f119_code = Qv f119_c13 := by kernel_rfl
theorem f119_rs : rsOf QP f119.results.toList = Qv [] := by kernel_rfl
theorem f119_nt : f119.ntmps = 18 := by kernel_rfl
theorem f119_ok : callable QP 119 = true := by kernel_rfl
theorem f119_tri {gp : Heap} {args : List V} {pre : List Ch} {R : V -> List Ch -> Prop} (h : G ⟨QP,gp,pre.length,[],R,false⟩ [.code f119_c13,.fin] ⟨args ++ List.replicate (18 - args.length) .un,pre⟩) : Tri QP gp 119 args pre R :=
 tri_intro func119 f119_body f119_tr f119_rs (by rw [f119_nt]; exact h)
end Go.Fw.L07
