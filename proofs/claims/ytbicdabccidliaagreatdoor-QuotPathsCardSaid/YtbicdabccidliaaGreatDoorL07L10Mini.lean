/- Small codes. -/
import Derived.Test.YtbicdabccidliaaGreatDoorFd
import Derived.Test.YtbicdabccidliaaGreatDoorProg
set_option linter.all false
namespace Go.Fw.L07
open Go Go.Fw
open Go.Proofs.Tryz renaming prog -> QP
open Go.Proofs.Tryz (f101 f129 f18 f42 f43 f50 f79 f82 f83 func101 func129 func18 func42 func43 func50 func79 func82 func83)
open Go.Fw.MO renaming op -> Qa,chk -> Qb,opx -> Qc
open Go.Fw.MOp renaming mv -> Qd,bin -> Qe,load -> Qf,fad -> Qg,call -> Qh,ext -> Qi,iad -> Qj,len -> Qk,store -> Ql,pick -> Qm
open Go.Fw.Opd renaming t -> Qn,c -> Qo
open Go.Fw.V renaming one -> Qp
open Go.Fw.A renaming d -> Qq
open Go.Fw.D renaming int -> Qr,bool -> Qs
open Go.Fw.Leaf renaming i -> Qt
open Go.IntKind renaming i64 -> Qu
open Option renaming some -> Qv
def f18_r0:List MO:=[Qa (Qv 1) (MOp.ibox (Qn 0)),Qa (Qv 2) (Qd (Qo (Qp A.nil))),Qa (Qv 3) (Qd (Qo (Qp (Qq (Qr Qu 0)))))]
def f18_c0:MC:=.reg false f18_r0
def f18_r1:List MO:=[Qa (Qv 7) (Qf 2 true (Qn 1)),Qa (Qv 8) (Qh 37 [(Qn 7)]),Qa (Qv 6) (Qd (Qn 8)),Qa (Qv 9) (Qi (Qn 6) 0),Qa (Qv 10) (Qi (Qn 6) 1),Qa (Qv 4) (Qd (Qn 9)),Qa (Qv 5) (Qd (Qn 10))]
def f18_c1:MC:=.reg false f18_r1
def f18_r2:List MO:=[Qa (Qv 11) (Qd (Qn 5)),Qa (Qv 12) (Qe Qt Go.BinOp.neq (Qn 11) (Qo (Qp (Qq (Qr Qu 0)))))]
def f18_c2:MC:=.reg false f18_r2
def f18_r3:List MO:=[Qa (Qv 13) (Qd (Qn 5)),Qa (Qv 2) (Qd (Qo (Qp A.nil))),Qa (Qv 3) (Qd (Qn 13))]
def f18_c3:MC:=.reg false f18_r3
def f18_c4:MC:=MC.ret
def f18_c5:MC:=.seq f18_c3 f18_c4
def f18_c6:MC:=MC.skip
def f18_c7:MC:=.cond (Qn 12) f18_c5 f18_c6
def f18_c8:MC:=.seq f18_c2 f18_c7
def f18_c9:MC:=.seq f18_c1 f18_c8
def f18_r10:List MO:=[Qa (Qv 14) (Qf 2 true (Qn 1)),Qa (Qv 15) (Qh 42 [(Qn 14)]),Qa (Qv 16) (Qh 43 [(Qn 15)]),Qa (Qv 2) (Qd (Qn 16)),Qa (Qv 3) (Qd (Qo (Qp (Qq (Qr Qu 0)))))]
def f18_c10:MC:=.reg false f18_r10
def f18_c11:MC:=MC.ret
def f18_c12:MC:=.seq f18_c10 f18_c11
def f18_c13:MC:=.seq f18_c9 f18_c12
def f18_c14:MC:=.seq f18_c0 f18_c13
attribute [go_sem] f18_r0 f18_r1 f18_r2 f18_r3 f18_r10
noncomputable def f18_code : Code := (f18.body).getD .skip
theorem f18_body : f18.body = Qv f18_code := by kernel_rfl
theorem f18_tr : trC QP [1] f18_code = Qv f18_c14 := by kernel_rfl
theorem f18_rs : rsOf QP f18.results.toList = Qv [(RV.t 2),(RV.t 3)] := by kernel_rfl
theorem f18_nt : f18.ntmps = 17 := by kernel_rfl
theorem f18_ok : callable QP 18 = true := by kernel_rfl
theorem f18_in {gp : Heap} {args : List V} {res : V} (h : G ⟨QP,gp,0,[(RV.t 2),(RV.t 3)],fun r c => r = res /\ c = [],false⟩ [.code f18_c14,.fin] ⟨args ++ List.replicate (17 - args.length) .un,[]⟩) : Does QP gp 18 args res :=
 does_intro f18_ok func18 f18_body f18_tr f18_rs (by rw [f18_nt]; exact h)
def f42_r0:List MO:=[Qa (Qv 1) (MOp.ibox (Qn 0)),Qa (Qv 2) (Qd (Qo (Qp (Qq D.nilP))))]
def f42_c0:MC:=.reg false f42_r0
def f42_r1:List MO:=[Qa (Qv 3) (Qf 2 true (Qn 1)),Qa (Qv 4) (Qg 1 (Qn 1)),Qa (Qv 5) (Qf 1 false (Qn 4)),Qa (Qv 6) (Qk Qt (Qn 5)),Qa (Qv 7) (MOp.mkS 1 8 [(Qr Qu 0)] (Qn 6)),Qa (Qv 8) (MOp.build [(Qr Qu 0),(D.sl []),(D.sl [])] [(0,(2,(Qn 3))),(2,(1,(Qn 7)))]),Qa (Qv 9) (MOp.box (Qn 8)),Qa (Qv 2) (Qd (Qn 9))]
def f42_c1:MC:=.reg true f42_r1
def f42_c2:MC:=MC.ret
def f42_c3:MC:=.seq f42_c1 f42_c2
def f42_c4:MC:=.seq f42_c0 f42_c3
attribute [go_sem] f42_r0 f42_r1
noncomputable def f42_code : Code := (f42.body).getD .skip
theorem f42_body : f42.body = Qv f42_code := by kernel_rfl
theorem f42_tr : trC QP [1] f42_code = Qv f42_c4 := by kernel_rfl
theorem f42_rs : rsOf QP f42.results.toList = Qv [(RV.t 2)] := by kernel_rfl
theorem f42_nt : f42.ntmps = 10 := by kernel_rfl
theorem f42_ok : callable QP 42 = true := by kernel_rfl
theorem f42_tri {gp : Heap} {args : List V} {pre : List Ch} {R : V -> List Ch -> Prop} (h : G ⟨QP,gp,pre.length,[(RV.t 2)],R,false⟩ [.code f42_c4,.fin] ⟨args ++ List.replicate (10 - args.length) .un,pre⟩) : Tri QP gp 42 args pre R :=
 tri_intro func42 f42_body f42_tr f42_rs (by rw [f42_nt]; exact h)
def f43_r0:List MO:=[Qa (Qv 2) (Qd (Qo (Qp A.nil)))]
def f43_c0:MC:=.reg false f43_r0
def f43_r1:List MO:=[Qa (Qv 6) (Qd (Qn 0)),Qa (Qv 7) (MOp.mkMv (Go.Fn.func 79) (Qn 6)),Qa (Qv 3) (Qd (Qn 7))]
def f43_c1:MC:=.reg false f43_r1
def f43_r2:List MO:=[Qa (Qv 8) (Qd (Qn 3)),Qa (Qv 9) (MOp.callv (Qn 8) []),Qa (Qv 4) (Qd (Qo (Qp (Qq (Qr Qu 0))))),Qa (Qv 5) (Qd (Qn 9))]
def f43_c2:MC:=.reg false f43_r2
def f43_r3:List MO:=[Qa (Qv 10) (Qd (Qn 5)),Qa (Qv 11) (Qd (Qn 4)),Qa (Qv 12) (Qe Qt Go.BinOp.gtr (Qn 10) (Qn 11))]
def f43_c3:MC:=.reg false f43_r3
def f43_c4:MC:=MC.skip
def f43_c5:MC:=(MC.exit 0)
def f43_c6:MC:=.cond (Qn 12) f43_c4 f43_c5
def f43_c7:MC:=.seq f43_c3 f43_c6
def f43_r8:List MO:=[Qa (Qv 13) (Qd (Qn 5)),Qa (Qv 14) (Qd (Qn 3)),Qa (Qv 15) (MOp.callv (Qn 14) []),Qa (Qv 4) (Qd (Qn 13)),Qa (Qv 5) (Qd (Qn 15))]
def f43_c8:MC:=.reg false f43_r8
def f43_c9:MC:=.blk 1 f43_c8
def f43_c10:MC:=.seq f43_c7 f43_c9
def f43_c11:MC:=.loop f43_c10
def f43_c12:MC:=.blk 0 f43_c11
def f43_c13:MC:=.seq f43_c2 f43_c12
def f43_r14:List MO:=[Qa (Qv 16) (Qd (Qn 0)),Qa (Qv 17) (MOp.nck (Qn 16)),Qa (Qv 18) (Qg 2 (Qn 17)),Qa (Qv 19) (Qf 1 false (Qn 18)),Qa (Qv 2) (Qd (Qn 19))]
def f43_c14:MC:=.reg false f43_r14
def f43_c15:MC:=MC.ret
def f43_c16:MC:=.seq f43_c14 f43_c15
def f43_c17:MC:=.seq f43_c13 f43_c16
def f43_c18:MC:=.seq f43_c1 f43_c17
def f43_c19:MC:=.seq f43_c0 f43_c18
attribute [go_sem] f43_r0 f43_r1 f43_r2 f43_r3 f43_r8 f43_r14
noncomputable def f43_code : Code := (f43.body).getD .skip
theorem f43_body : f43.body = Qv f43_code := by kernel_rfl
theorem f43_tr : trC QP [] f43_code = Qv f43_c19 := by kernel_rfl
theorem f43_rs : rsOf QP f43.results.toList = Qv [(RV.t 2)] := by kernel_rfl
theorem f43_nt : f43.ntmps = 20 := by kernel_rfl
theorem f43_ok : callable QP 43 = true := by kernel_rfl
theorem f43_tri {gp : Heap} {args : List V} {pre : List Ch} {R : V -> List Ch -> Prop} (h : G ⟨QP,gp,pre.length,[(RV.t 2)],R,false⟩ [.code f43_c19,.fin] ⟨args ++ List.replicate (20 - args.length) .un,pre⟩) : Tri QP gp 43 args pre R :=
 tri_intro func43 f43_body f43_tr f43_rs (by rw [f43_nt]; exact h)
def f50_r0:List MO:=[Qa (Qv 4) (MOp.alloc [(Qr Qu 0),(Qr Qu 0),(Qr Qu 0),(D.str (ByteArray.mk #[])),(D.str (ByteArray.mk #[])),(D.str (ByteArray.mk #[]))])]
def f50_c0:MC:=.reg false f50_r0
def f50_r1:List MO:=[Qa (Qv 10) (Qd (Qn 0)),Qa (Qv 11) (MOp.nck (Qn 10)),Qa (Qv 12) (Qg 0 (Qn 11)),Qa (Qv 13) (Qf 2 true (Qn 12)),Qa (Qv 14) (Qd (Qn 1)),Qa (Qv 15) (Qh 25 [(Qn 13),(Qn 14)]),Qa (Qv 9) (Qd (Qn 15)),Qa (Qv 16) (Qi (Qn 9) 0),Qa (Qv 17) (Qi (Qn 9) 1),Qa (Qv 5) (Qd (Qn 16)),Qa (Qv 6) (Qd (Qn 17))]
def f50_c1:MC:=.reg false f50_r1
def f50_r2:List MO:=[Qa (Qv 18) (Qd (Qn 5)),Qa (Qv 19) (Qk Qt (Qn 18)),Qa (Qv 20) (Qd (Qo (Qp (Qq (Qr Qu 0)))))]
def f50_c2:MC:=.reg false f50_r2
def f50_r3:List MO:=[Qa (Qv 21) (Qe Qt Go.BinOp.lss (Qn 20) (Qn 19))]
def f50_c3:MC:=.reg false f50_r3
def f50_c4:MC:=MC.skip
def f50_c5:MC:=(MC.exit 0)
def f50_c6:MC:=.cond (Qn 21) f50_c4 f50_c5
def f50_r7:List MO:=[Qa (Qv 22) (Qd (Qn 20)),Qa (Qv 23) (Qj 1 (Qn 18) (Qn 20)),Qa (Qv 24) (Qf 1 false (Qn 23)),Qa (Qv 7) (Qd (Qn 22)),Qa (Qv 8) (Qd (Qn 24))]
def f50_c7:MC:=.reg false f50_r7
def f50_r8:List MO:=[Qa (Qv 25) (Qd (Qn 5)),Qa (Qv 26) (Qd (Qn 7)),Qa (Qv 27) (Qd (Qn 0)),Qa (Qv 28) (MOp.nck (Qn 27)),Qa (Qv 29) (Qg 2 (Qn 28)),Qa (Qv 30) (Qf 1 false (Qn 29)),Qa (Qv 31) (Qd (Qn 8)),Qa (Qv 32) (Qj 1 (Qn 30) (Qn 31)),Qa (Qv 33) (Qf 1 false (Qn 32)),Qa (Qv 34) (Qj 1 (Qn 25) (Qn 26)),Qa none (Ql 1 (Qn 34) (Qn 33))]
def f50_c8:MC:=.reg false f50_r8
def f50_c9:MC:=.seq f50_c7 f50_c8
def f50_c10:MC:=.blk 1 f50_c9
def f50_r11:List MO:=[Qa (Qv 35) (Qe Qt Go.BinOp.add (Qn 20) (Qo (Qp (Qq (Qr Qu 1))))),Qa (Qv 20) (Qd (Qn 35))]
def f50_c11:MC:=.reg false f50_r11
def f50_c12:MC:=.seq f50_c10 f50_c11
def f50_c13:MC:=.seq f50_c6 f50_c12
def f50_c14:MC:=.seq f50_c3 f50_c13
def f50_c15:MC:=.loop f50_c14
def f50_c16:MC:=.blk 0 f50_c15
def f50_c17:MC:=.seq f50_c2 f50_c16
def f50_r18:List MO:=[Qa (Qv 36) (Qd (Qn 0)),Qa (Qv 37) (MOp.nck (Qn 36)),Qa (Qv 38) (Qg 0 (Qn 37)),Qa (Qv 39) (Qg 1 (Qn 38)),Qa (Qv 40) (Qf 1 false (Qn 39)),Qa (Qv 41) (Qd (Qn 1)),Qa (Qv 42) (Qj 6 (Qn 40) (Qn 41)),Qa (Qv 43) (Qg 0 (Qn 42)),Qa (Qv 44) (Qf 1 false (Qn 43)),Qa (Qv 45) (Qd (Qn 0)),Qa (Qv 46) (MOp.nck (Qn 45)),Qa (Qv 47) (Qg 0 (Qn 46)),Qa (Qv 48) (Qg 1 (Qn 47)),Qa (Qv 49) (Qf 1 false (Qn 48)),Qa (Qv 50) (Qd (Qn 1)),Qa (Qv 51) (Qj 6 (Qn 49) (Qn 50)),Qa (Qv 52) (Qg 1 (Qn 51)),Qa (Qv 53) (Qf 3 true (Qn 52)),Qa (Qv 54) (Qd (Qn 0)),Qa (Qv 55) (Qd (Qn 1)),Qa (Qv 56) (Qh 82 [(Qn 54),(Qn 55)]),Qa (Qv 57) (Qd (Qn 5)),Qa (Qv 58) (Qh 83 [(Qn 57)]),Qa (Qv 59) (MOp.build [(Qr Qu 0),(Qr Qu 0),(Qr Qu 0),(D.str (ByteArray.mk #[])),(D.str (ByteArray.mk #[])),(D.str (ByteArray.mk #[]))] [(0,(1,(Qn 44))),(1,(3,(Qn 53))),(4,(1,(Qn 56))),(5,(1,(Qn 58)))]),Qa none (Ql 6 (Qn 4) (Qn 59))]
def f50_c18:MC:=.reg true f50_r18
def f50_c19:MC:=MC.ret
def f50_c20:MC:=.seq f50_c18 f50_c19
def f50_c21:MC:=.seq f50_c17 f50_c20
def f50_c22:MC:=.seq f50_c1 f50_c21
def f50_c23:MC:=.seq f50_c0 f50_c22
attribute [go_sem] f50_r0 f50_r1 f50_r2 f50_r3 f50_r7 f50_r8 f50_r11 f50_r18
noncomputable def f50_code : Code := (f50.body).getD .skip
theorem f50_body : f50.body = Qv f50_code := by kernel_rfl
theorem f50_tr : trC QP [] f50_code = Qv f50_c23 := by kernel_rfl
theorem f50_rs : rsOf QP f50.results.toList = Qv [(RV.cell 4 6 true)] := by kernel_rfl
theorem f50_nt : f50.ntmps = 60 := by kernel_rfl
theorem f50_ok : callable QP 50 = true := by kernel_rfl
theorem f50_in {gp : Heap} {args : List V} {res : V} (h : G ⟨QP,gp,0,[(RV.cell 4 6 true)],fun r c => r = res /\ c = [],false⟩ [.code f50_c23,.fin] ⟨args ++ List.replicate (60 - args.length) .un,[]⟩) : Does QP gp 50 args res :=
 does_intro f50_ok func50 f50_body f50_tr f50_rs (by rw [f50_nt]; exact h)
def f79_r0:List MO:=[Qa (Qv 2) (Qd (Qo (Qp (Qq (Qr Qu 0)))))]
def f79_c0:MC:=.reg false f79_r0
def f79_r1:List MO:=[Qa (Qv 9) MOp.mkM,Qa (Qv 3) (MOp.alloc [(D.raw (Go.Value.map none))]),Qa none (Ql 1 (Qn 3) (Qn 9))]
def f79_c1:MC:=.reg false f79_r1
def f79_r2:List MO:=[Qa (Qv 10) (Qd (Qn 0)),Qa (Qv 11) (MOp.nck (Qn 10)),Qa (Qv 12) (Qg 2 (Qn 11)),Qa (Qv 13) (Qf 1 false (Qn 12)),Qa (Qv 14) (Qk Qt (Qn 13)),Qa (Qv 15) (MOp.mkS 1 8 [(Qr Qu 0)] (Qn 14)),Qa (Qv 4) (MOp.alloc [(D.sl [])]),Qa none (Ql 1 (Qn 4) (Qn 15))]
def f79_c2:MC:=.reg false f79_r2
def f79_r3:List MO:=[Qa (Qv 16) (Qd (Qn 0)),Qa (Qv 17) (Qh 101 [(Qn 16)])]
def f79_c3:MC:=.reg false f79_r3
def f79_r4:List MO:=[Qa (Qv 5) (Qd (Qn 18))]
def f79_c4:MC:=.reg false f79_r4
def f79_r5:List MO:=[Qa (Qv 6) (MOp.alloc [(Qr Qu 0),(Qr Qu 0),(Qr Qu 0),(D.str (ByteArray.mk #[])),(D.str (ByteArray.mk #[])),(D.str (ByteArray.mk #[]))]),Qa none (Ql 6 (Qn 6) (Qn 19))]
def f79_c5:MC:=.reg false f79_r5
def f79_c6:MC:=.seq f79_c4 f79_c5
def f79_r7:List MO:=[Qa (Qv 21) (Qf 1 false (Qn 3)),Qa (Qv 22) (Qf 6 true (Qn 6)),Qa (Qv 23) (MOp.lkp true (Qp (Qq (Qr Qu 0))) true [Qt,Qt,Qt,Leaf.s,Leaf.s,Leaf.s] (Qn 21) (Qn 22)),Qa (Qv 20) (Qd (Qn 23)),Qa (Qv 24) (Qi (Qn 20) 0),Qa (Qv 25) (Qi (Qn 20) 1),Qa (Qv 7) (Qd (Qn 24)),Qa (Qv 8) (Qd (Qn 25))]
def f79_c7:MC:=.reg false f79_r7
def f79_r8:List MO:=[Qa (Qv 26) (Qd (Qn 8)),Qa (Qv 27) (MOp.not (Qn 26))]
def f79_c8:MC:=.reg false f79_r8
def f79_r9:List MO:=[Qa (Qv 28) (Qf 1 false (Qn 3)),Qa (Qv 29) (Qf 6 true (Qn 6)),Qa (Qv 30) (Qf 1 false (Qn 3)),Qa (Qv 31) (Qk Leaf.b (Qn 30)),Qa none (MOp.mupd true [Qt,Qt,Qt,Leaf.s,Leaf.s,Leaf.s] (Qn 28) (Qn 29) (Qn 31))]
def f79_c9:MC:=.reg false f79_r9
def f79_c10:MC:=MC.skip
def f79_c11:MC:=.cond (Qn 27) f79_c9 f79_c10
def f79_c12:MC:=.seq f79_c8 f79_c11
def f79_c13:MC:=.seq f79_c7 f79_c12
def f79_r14:List MO:=[Qa (Qv 32) (Qf 1 false (Qn 4)),Qa (Qv 33) (Qd (Qn 5)),Qa (Qv 34) (Qf 1 false (Qn 3)),Qa (Qv 35) (Qf 6 true (Qn 6)),Qa (Qv 36) (MOp.lkp false (Qp (Qq (Qr Qu 0))) true [Qt,Qt,Qt,Leaf.s,Leaf.s,Leaf.s] (Qn 34) (Qn 35)),Qa (Qv 37) (Qj 1 (Qn 32) (Qn 33)),Qa none (Ql 1 (Qn 37) (Qn 36))]
def f79_c14:MC:=.reg true f79_r14
def f79_c15:MC:=.seq f79_c13 f79_c14
def f79_c16:MC:=.blk 1 f79_c15
def f79_c17:MC:=.rf (Qn 17) [18,19] f79_c6 f79_c16
def f79_c18:MC:=.blk 0 f79_c17
def f79_c19:MC:=.seq f79_c3 f79_c18
def f79_r20:List MO:=[Qa (Qv 38) (Qd (Qn 0)),Qa (Qv 39) (MOp.nck (Qn 38)),Qa (Qv 40) (Qg 2 (Qn 39)),Qa (Qv 41) (Qf 1 false (Qn 40)),Qa (Qv 42) (Qf 1 false (Qn 4)),Qa (Qv 43) (MOp.cpy 1 (Qn 41) (Qn 42))]
def f79_c20:MC:=.reg true f79_r20
def f79_r21:List MO:=[Qa (Qv 44) (Qf 1 false (Qn 3)),Qa (Qv 45) (Qk Leaf.b (Qn 44)),Qa (Qv 2) (Qd (Qn 45))]
def f79_c21:MC:=.reg false f79_r21
def f79_c22:MC:=MC.ret
def f79_c23:MC:=.seq f79_c21 f79_c22
def f79_c24:MC:=.seq f79_c20 f79_c23
def f79_c25:MC:=.seq f79_c19 f79_c24
def f79_c26:MC:=.seq f79_c2 f79_c25
def f79_c27:MC:=.seq f79_c1 f79_c26
def f79_c28:MC:=.seq f79_c0 f79_c27
attribute [go_sem] f79_r0 f79_r1 f79_r2 f79_r3 f79_r4 f79_r5 f79_r7 f79_r8 f79_r9 f79_r14 f79_r20 f79_r21
noncomputable def f79_code : Code := (f79.body).getD .skip
theorem f79_body : f79.body = Qv f79_code := by kernel_rfl
theorem f79_tr : trC QP [] f79_code = Qv f79_c28 := by kernel_rfl
theorem f79_rs : rsOf QP f79.results.toList = Qv [(RV.t 2)] := by kernel_rfl
theorem f79_nt : f79.ntmps = 46 := by kernel_rfl
theorem f79_ok : callable QP 79 = true := by kernel_rfl
theorem f79_tri {gp : Heap} {args : List V} {pre : List Ch} {R : V -> List Ch -> Prop} (h : G ⟨QP,gp,pre.length,[(RV.t 2)],R,false⟩ [.code f79_c28,.fin] ⟨args ++ List.replicate (46 - args.length) .un,pre⟩) : Tri QP gp 79 args pre R :=
 tri_intro func79 f79_body f79_tr f79_rs (by rw [f79_nt]; exact h)
def f82_r0:List MO:=[Qa (Qv 4) (Qd (Qo (Qp (Qq (D.str (ByteArray.mk #[]))))))]
def f82_c0:MC:=.reg false f82_r0
def f82_r1:List MO:=[Qa (Qv 13) (Qd (Qn 0)),Qa (Qv 14) (MOp.nck (Qn 13)),Qa (Qv 15) (Qg 0 (Qn 14)),Qa (Qv 16) (Qf 2 true (Qn 15)),Qa (Qv 17) (Qd (Qn 1)),Qa (Qv 18) (Qh 74 [(Qn 16),(Qn 17)]),Qa (Qv 12) (Qd (Qn 18)),Qa (Qv 19) (Qi (Qn 12) 0),Qa (Qv 20) (Qi (Qn 12) 1),Qa (Qv 5) (Qd (Qn 19)),Qa (Qv 6) (Qd (Qn 20))]
def f82_c1:MC:=.reg false f82_r1
def f82_r2:List MO:=[Qa (Qv 7) (MOp.bldN 170 5)]
def f82_c2:MC:=.reg false f82_r2
def f82_r3:List MO:=[Qa (Qv 21) (Qd (Qn 5)),Qa (Qv 22) (Qk Qt (Qn 21)),Qa (Qv 23) (Qd (Qo (Qp (Qq (Qr Qu 0)))))]
def f82_c3:MC:=.reg false f82_r3
def f82_r4:List MO:=[Qa (Qv 24) (Qe Qt Go.BinOp.lss (Qn 23) (Qn 22))]
def f82_c4:MC:=.reg false f82_r4
def f82_c5:MC:=MC.skip
def f82_c6:MC:=(MC.exit 0)
def f82_c7:MC:=.cond (Qn 24) f82_c5 f82_c6
def f82_r8:List MO:=[Qa (Qv 25) (Qj 3 (Qn 21) (Qn 23)),Qa (Qv 26) (Qf 3 true (Qn 25)),Qa (Qv 9) (MOp.alloc [(Qr Qu 0),(Qr Qu 0),(D.str (ByteArray.mk #[]))]),Qa none (Ql 3 (Qn 9) (Qn 26))]
def f82_c8:MC:=.reg false f82_r8
def f82_r9:List MO:=[Qa (Qv 28) (Qf 3 true (Qn 9)),Qa (Qv 29) (Qh 104 [(Qn 28)]),Qa (Qv 27) (Qd (Qn 29)),Qa (Qv 30) (Qi (Qn 27) 0),Qa (Qv 31) (Qi (Qn 27) 1),Qa (Qv 10) (Qd (Qn 30)),Qa (Qv 11) (Qd (Qn 31))]
def f82_c9:MC:=.reg false f82_r9
def f82_r10:List MO:=[Qa (Qv 32) (Qd (Qn 10)),Qa (Qv 33) (Qe Leaf.s Go.BinOp.add (Qn 32) (Qo (Qp (Qq (D.str (ByteArray.mk #[44])))))),Qa (Qv 34) (Qh 105 [(Qn 7),(Qn 33)])]
def f82_c10:MC:=.reg false f82_r10
def f82_c11:MC:=.seq f82_c9 f82_c10
def f82_c12:MC:=.seq f82_c8 f82_c11
def f82_c13:MC:=.blk 1 f82_c12
def f82_r14:List MO:=[Qa (Qv 35) (Qe Qt Go.BinOp.add (Qn 23) (Qo (Qp (Qq (Qr Qu 1))))),Qa (Qv 23) (Qd (Qn 35))]
def f82_c14:MC:=.reg false f82_r14
def f82_c15:MC:=.seq f82_c13 f82_c14
def f82_c16:MC:=.seq f82_c7 f82_c15
def f82_c17:MC:=.seq f82_c4 f82_c16
def f82_c18:MC:=.loop f82_c17
def f82_c19:MC:=.blk 0 f82_c18
def f82_c20:MC:=.seq f82_c3 f82_c19
def f82_r21:List MO:=[Qa (Qv 36) (Qh 106 [(Qn 7)]),Qa (Qv 4) (Qd (Qn 36))]
def f82_c21:MC:=.reg false f82_r21
def f82_c22:MC:=MC.ret
def f82_c23:MC:=.seq f82_c21 f82_c22
def f82_c24:MC:=.seq f82_c20 f82_c23
def f82_c25:MC:=.seq f82_c2 f82_c24
def f82_c26:MC:=.seq f82_c1 f82_c25
def f82_c27:MC:=.seq f82_c0 f82_c26
attribute [go_sem] f82_r0 f82_r1 f82_r2 f82_r3 f82_r4 f82_r8 f82_r9 f82_r10 f82_r14 f82_r21
noncomputable def f82_code : Code := (f82.body).getD .skip
theorem f82_body : f82.body = Qv f82_code := by kernel_rfl
theorem f82_tr : trC QP [] f82_code = Qv f82_c27 := by kernel_rfl
theorem f82_rs : rsOf QP f82.results.toList = Qv [(RV.t 4)] := by kernel_rfl
theorem f82_nt : f82.ntmps = 37 := by kernel_rfl
theorem f82_ok : callable QP 82 = true := by kernel_rfl
theorem f82_in {gp : Heap} {args : List V} {res : V} (h : G ⟨QP,gp,0,[(RV.t 4)],fun r c => r = res /\ c = [],false⟩ [.code f82_c27,.fin] ⟨args ++ List.replicate (37 - args.length) .un,[]⟩) : Does QP gp 82 args res :=
 does_intro f82_ok func82 f82_body f82_tr f82_rs (by rw [f82_nt]; exact h)
def f83_r0:List MO:=[Qa (Qv 2) (Qd (Qo (Qp (Qq (D.str (ByteArray.mk #[]))))))]
def f83_c0:MC:=.reg false f83_r0
def f83_r1:List MO:=[Qa (Qv 3) (MOp.bldN 170 5)]
def f83_c1:MC:=.reg false f83_r1
def f83_r2:List MO:=[Qa (Qv 6) (Qd (Qn 0)),Qa (Qv 7) (Qk Qt (Qn 6)),Qa (Qv 8) (Qd (Qo (Qp (Qq (Qr Qu 0)))))]
def f83_c2:MC:=.reg false f83_r2
def f83_r3:List MO:=[Qa (Qv 9) (Qe Qt Go.BinOp.lss (Qn 8) (Qn 7))]
def f83_c3:MC:=.reg false f83_r3
def f83_c4:MC:=MC.skip
def f83_c5:MC:=(MC.exit 0)
def f83_c6:MC:=.cond (Qn 9) f83_c4 f83_c5
def f83_r7:List MO:=[Qa (Qv 10) (Qj 1 (Qn 6) (Qn 8)),Qa (Qv 11) (Qf 1 false (Qn 10)),Qa (Qv 5) (Qd (Qn 11))]
def f83_c7:MC:=.reg false f83_r7
def f83_r8:List MO:=[Qa (Qv 12) (Qd (Qn 5)),Qa (Qv 13) (Qh 107 [(Qn 12)]),Qa (Qv 14) (Qe Leaf.s Go.BinOp.add (Qn 13) (Qo (Qp (Qq (D.str (ByteArray.mk #[44])))))),Qa (Qv 15) (Qh 105 [(Qn 3),(Qn 14)])]
def f83_c8:MC:=.reg false f83_r8
def f83_c9:MC:=.seq f83_c7 f83_c8
def f83_c10:MC:=.blk 1 f83_c9
def f83_r11:List MO:=[Qa (Qv 16) (Qe Qt Go.BinOp.add (Qn 8) (Qo (Qp (Qq (Qr Qu 1))))),Qa (Qv 8) (Qd (Qn 16))]
def f83_c11:MC:=.reg false f83_r11
def f83_c12:MC:=.seq f83_c10 f83_c11
def f83_c13:MC:=.seq f83_c6 f83_c12
def f83_c14:MC:=.seq f83_c3 f83_c13
def f83_c15:MC:=.loop f83_c14
def f83_c16:MC:=.blk 0 f83_c15
def f83_c17:MC:=.seq f83_c2 f83_c16
def f83_r18:List MO:=[Qa (Qv 17) (Qh 106 [(Qn 3)]),Qa (Qv 2) (Qd (Qn 17))]
def f83_c18:MC:=.reg false f83_r18
def f83_c19:MC:=MC.ret
def f83_c20:MC:=.seq f83_c18 f83_c19
def f83_c21:MC:=.seq f83_c17 f83_c20
def f83_c22:MC:=.seq f83_c1 f83_c21
def f83_c23:MC:=.seq f83_c0 f83_c22
attribute [go_sem] f83_r0 f83_r1 f83_r2 f83_r3 f83_r7 f83_r8 f83_r11 f83_r18
noncomputable def f83_code : Code := (f83.body).getD .skip
theorem f83_body : f83.body = Qv f83_code := by kernel_rfl
theorem f83_tr : trC QP [] f83_code = Qv f83_c23 := by kernel_rfl
theorem f83_rs : rsOf QP f83.results.toList = Qv [(RV.t 2)] := by kernel_rfl
theorem f83_nt : f83.ntmps = 18 := by kernel_rfl
theorem f83_ok : callable QP 83 = true := by kernel_rfl
theorem f83_in {gp : Heap} {args : List V} {res : V} (h : G ⟨QP,gp,0,[(RV.t 2)],fun r c => r = res /\ c = [],false⟩ [.code f83_c23,.fin] ⟨args ++ List.replicate (18 - args.length) .un,[]⟩) : Does QP gp 83 args res :=
 does_intro f83_ok func83 f83_body f83_tr f83_rs (by rw [f83_nt]; exact h)
def f101_r0:List MO:=[Qa (Qv 1) (MOp.box (Qn 0)),Qa (Qv 2) (Qd (Qo (Qp (Qq D.nilF))))]
def f101_c0:MC:=.reg false f101_r0
def f101_r1:List MO:=[Qa (Qv 3) (MOp.mkF (Go.Fn.func 129) [(Qn 1)]),Qa (Qv 2) (Qd (Qn 3))]
def f101_c1:MC:=.reg false f101_r1
def f101_c2:MC:=MC.ret
def f101_c3:MC:=.seq f101_c1 f101_c2
def f101_c4:MC:=.seq f101_c0 f101_c3
attribute [go_sem] f101_r0 f101_r1
noncomputable def f101_code : Code := (f101.body).getD .skip
theorem f101_body : f101.body = Qv f101_code := by kernel_rfl
theorem f101_tr : trC QP [] f101_code = Qv f101_c4 := by kernel_rfl
theorem f101_rs : rsOf QP f101.results.toList = Qv [(RV.t 2)] := by kernel_rfl
theorem f101_nt : f101.ntmps = 4 := by kernel_rfl
theorem f101_ok : callable QP 101 = true := by kernel_rfl
theorem f101_tri {gp : Heap} {args : List V} {pre : List Ch} {R : V -> List Ch -> Prop} (h : G ⟨QP,gp,pre.length,[(RV.t 2)],R,false⟩ [.code f101_c4,.fin] ⟨args ++ List.replicate (4 - args.length) .un,pre⟩) : Tri QP gp 101 args pre R :=
 tri_intro func101 f101_body f101_tr f101_rs (by rw [f101_nt]; exact h)
def f129_c0:MC:=MC.skip
def f129_r1:List MO:=[Qa (Qv 4) (Qf 1 false (Qn 1)),Qa (Qv 5) (MOp.nck (Qn 4)),Qa (Qv 6) (Qg 0 (Qn 5)),Qa (Qv 7) (Qg 1 (Qn 6)),Qa (Qv 8) (Qf 1 false (Qn 7)),Qa (Qv 9) (Qk Qt (Qn 8)),Qa (Qv 10) (Qd (Qo (Qp (Qq (Qr Qu 0)))))]
def f129_c1:MC:=.reg false f129_r1
def f129_r2:List MO:=[Qa (Qv 11) (Qe Qt Go.BinOp.lss (Qn 10) (Qn 9))]
def f129_c2:MC:=.reg false f129_r2
def f129_c3:MC:=MC.skip
def f129_c4:MC:=(MC.exit 0)
def f129_c5:MC:=.cond (Qn 11) f129_c3 f129_c4
def f129_r6:List MO:=[Qa (Qv 12) (Qd (Qn 10)),Qa (Qv 3) (Qd (Qn 12))]
def f129_c6:MC:=.reg false f129_r6
def f129_r7:List MO:=[Qa (Qv 13) (Qd (Qn 0)),Qa (Qv 14) (Qd (Qn 3)),Qa (Qv 15) (Qf 1 false (Qn 1)),Qa (Qv 16) (Qd (Qn 3)),Qa (Qv 17) (Qh 50 [(Qn 15),(Qn 16)]),Qa (Qv 18) (MOp.callv (Qn 13) [(Qn 14),(Qn 17)]),Qa (Qv 19) (MOp.not (Qn 18))]
def f129_c7:MC:=.reg false f129_r7
def f129_c8:MC:=(MC.exit 0)
def f129_c9:MC:=MC.skip
def f129_c10:MC:=.cond (Qn 19) f129_c8 f129_c9
def f129_c11:MC:=.seq f129_c7 f129_c10
def f129_c12:MC:=.seq f129_c6 f129_c11
def f129_c13:MC:=.blk 1 f129_c12
def f129_r14:List MO:=[Qa (Qv 20) (Qe Qt Go.BinOp.add (Qn 10) (Qo (Qp (Qq (Qr Qu 1))))),Qa (Qv 10) (Qd (Qn 20))]
def f129_c14:MC:=.reg false f129_r14
def f129_c15:MC:=.seq f129_c13 f129_c14
def f129_c16:MC:=.seq f129_c5 f129_c15
def f129_c17:MC:=.seq f129_c2 f129_c16
def f129_c18:MC:=.loop f129_c17
def f129_c19:MC:=.blk 0 f129_c18
def f129_c20:MC:=.seq f129_c1 f129_c19
def f129_c21:MC:=.seq f129_c0 f129_c20
def f129_c22:MC:=.scope f129_c21
attribute [go_sem] f129_r1 f129_r2 f129_r6 f129_r7 f129_r14
noncomputable def f129_code : Code := (f129.body).getD .skip
theorem f129_body : f129.body = Qv f129_code := by kernel_rfl
theorem f129_tr : trC QP [] f129_code = Qv f129_c22 := by kernel_rfl
theorem f129_rs : rsOf QP f129.results.toList = Qv [] := by kernel_rfl
theorem f129_nt : f129.ntmps = 21 := by kernel_rfl
theorem f129_ok : callable QP 129 = true := by kernel_rfl
theorem f129_tri {gp : Heap} {args : List V} {pre : List Ch} {R : V -> List Ch -> Prop} (h : G ⟨QP,gp,pre.length,[],R,false⟩ [.code f129_c22,.fin] ⟨args ++ List.replicate (21 - args.length) .un,pre⟩) : Tri QP gp 129 args pre R :=
 tri_intro func129 f129_body f129_tr f129_rs (by rw [f129_nt]; exact h)
end Go.Fw.L07
