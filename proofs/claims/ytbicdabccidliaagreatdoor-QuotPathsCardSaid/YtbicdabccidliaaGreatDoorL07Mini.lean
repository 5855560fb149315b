/- Small codes. -/
import Derived.Test.YtbicdabccidliaaGreatDoorFd
import Derived.Test.YtbicdabccidliaaGreatDoorProg
set_option linter.all false
namespace Go.Fw.L07
open Go Go.Fw
open Go.Proofs.Tryz renaming prog -> QP
open Go.Proofs.Tryz (f100 f109 f110 f111 f112 f120 f121 f122 f123 f131 f138 f140 f141 f145 f146 f147 f151 f157 f158 f159 f160 f161 f162 f177 f178 f179 f180 f190 f24 f25 f37 f38 f41 f49 f54 f55 f68 f69 f70 f71 f72 f73 f74 f78 f86 f87 f88 f89 f90 f96 f97 func100 func109 func110 func111 func112 func120 func121 func122 func123 func131 func138 func140 func141 func145 func146 func147 func151 func157 func158 func159 func160 func161 func162 func177 func178 func179 func180 func190 func24 func25 func37 func38 func41 func49 func54 func55 func68 func69 func70 func71 func72 func73 func74 func78 func86 func87 func88 func89 func90 func96 func97)
open Go.Fw.MO renaming op -> Qa,chk -> Qb,opx -> Qc
open Go.Fw.MOp renaming mv -> Qd,bin -> Qe,load -> Qf,fad -> Qg,call -> Qh,ext -> Qi,iad -> Qj,len -> Qk,store -> Ql,pick -> Qm
open Go.Fw.Opd renaming t -> Qn,c -> Qo
open Go.Fw.V renaming one -> Qp
open Go.Fw.A renaming d -> Qq
open Go.Fw.D renaming int -> Qr,bool -> Qs
open Go.Fw.Leaf renaming i -> Qt
open Go.IntKind renaming i64 -> Qu
open Option renaming some -> Qv
def f24_r0:List MO:=[Qa (Qv 4) (Qd (Qo (Qp (Qq (Qs false)))))]
def f24_c0:MC:=.reg false f24_r0
def f24_r1:List MO:=[Qa (Qv 6) (Qd (Qn 0)),Qa (Qv 7) (Qk Qt (Qn 6)),Qa (Qv 8) (Qd (Qn 1)),Qa (Qv 9) (Qk Qt (Qn 8)),Qa (Qv 10) (Qe Qt Go.BinOp.neq (Qn 7) (Qn 9))]
def f24_c1:MC:=.reg false f24_r1
def f24_r2:List MO:=[Qa (Qv 4) (Qd (Qo (Qp (Qq (Qs false)))))]
def f24_c2:MC:=.reg false f24_r2
def f24_c3:MC:=MC.ret
def f24_c4:MC:=.seq f24_c2 f24_c3
def f24_c5:MC:=MC.skip
def f24_c6:MC:=.cond (Qn 10) f24_c4 f24_c5
def f24_c7:MC:=.seq f24_c1 f24_c6
def f24_r8:List MO:=[Qa (Qv 5) (Qd (Qo (Qp (Qq (Qr Qu 0)))))]
def f24_c8:MC:=.reg false f24_r8
def f24_r9:List MO:=[Qa (Qv 11) (Qd (Qn 5)),Qa (Qv 12) (Qd (Qn 0)),Qa (Qv 13) (Qk Qt (Qn 12)),Qa (Qv 14) (Qe Qt Go.BinOp.lss (Qn 11) (Qn 13))]
def f24_c9:MC:=.reg false f24_r9
def f24_c10:MC:=MC.skip
def f24_c11:MC:=(MC.exit 0)
def f24_c12:MC:=.cond (Qn 14) f24_c10 f24_c11
def f24_c13:MC:=.seq f24_c9 f24_c12
def f24_r14:List MO:=[Qa (Qv 17) (Qd (Qn 0)),Qa (Qv 18) (Qd (Qn 5)),Qa (Qv 19) (Qj 1 (Qn 17) (Qn 18)),Qa (Qv 20) (Qf 1 false (Qn 19)),Qa (Qv 21) (Qd (Qn 1)),Qa (Qv 22) (Qd (Qn 5)),Qa (Qv 23) (Qj 1 (Qn 21) (Qn 22)),Qa (Qv 24) (Qf 1 false (Qn 23)),Qa (Qv 25) (Qe Qt Go.BinOp.neq (Qn 20) (Qn 24))]
def f24_c14:MC:=.reg true f24_r14
def f24_r15:List MO:=[Qa (Qv 4) (Qd (Qo (Qp (Qq (Qs false)))))]
def f24_c15:MC:=.reg false f24_r15
def f24_c16:MC:=MC.ret
def f24_c17:MC:=.seq f24_c15 f24_c16
def f24_c18:MC:=MC.skip
def f24_c19:MC:=.cond (Qn 25) f24_c17 f24_c18
def f24_c20:MC:=.seq f24_c14 f24_c19
def f24_c21:MC:=.blk 1 f24_c20
def f24_r22:List MO:=[Qa (Qv 15) (Qd (Qn 5)),Qa (Qv 16) (Qe Qt Go.BinOp.add (Qn 15) (Qo (Qp (Qq (Qr Qu 1))))),Qa (Qv 5) (Qd (Qn 16))]
def f24_c22:MC:=.reg false f24_r22
def f24_c23:MC:=.seq f24_c21 f24_c22
def f24_c24:MC:=.seq f24_c13 f24_c23
def f24_c25:MC:=.loop f24_c24
def f24_c26:MC:=.blk 0 f24_c25
def f24_c27:MC:=.seq f24_c8 f24_c26
def f24_r28:List MO:=[Qa (Qv 4) (Qd (Qo (Qp (Qq (Qs true)))))]
def f24_c28:MC:=.reg false f24_r28
def f24_c29:MC:=MC.ret
def f24_c30:MC:=.seq f24_c28 f24_c29
def f24_c31:MC:=.seq f24_c27 f24_c30
def f24_c32:MC:=.seq f24_c7 f24_c31
def f24_c33:MC:=.seq f24_c0 f24_c32
attribute [go_sem] f24_r0 f24_r1 f24_r2 f24_r8 f24_r9 f24_r14 f24_r15 f24_r22 f24_r28
noncomputable def f24_code : Code := (f24.body).getD .skip
theorem f24_body : f24.body = Qv f24_code := by kernel_rfl
theorem f24_tr : trC QP [] f24_code = Qv f24_c33 := by kernel_rfl
theorem f24_rs : rsOf QP f24.results.toList = Qv [(RV.t 4)] := by kernel_rfl
theorem f24_nt : f24.ntmps = 26 := by kernel_rfl
theorem f24_ok : callable QP 24 = true := by kernel_rfl
theorem f24_in {gp : Heap} {args : List V} {res : V} (h : G ⟨QP,gp,0,[(RV.t 4)],fun r c => r = res /\ c = [],false⟩ [.code f24_c33,.fin] ⟨args ++ List.replicate (26 - args.length) .un,[]⟩) : Does QP gp 24 args res :=
 does_intro f24_ok func24 f24_body f24_tr f24_rs (by rw [f24_nt]; exact h)
def f25_r0:List MO:=[Qa (Qv 2) (MOp.ibox (Qn 0)),Qa (Qv 4) (Qd (Qo (Qp A.nil))),Qa (Qv 5) (Qd (Qo (Qp (Qq (Qr Qu 0)))))]
def f25_c0:MC:=.reg false f25_r0
def f25_r1:List MO:=[Qa (Qv 12) (Qf 2 true (Qn 2)),Qa (Qv 13) (Qd (Qn 1)),Qa (Qv 14) (Qh 54 [(Qn 12),(Qn 13)]),Qa (Qv 11) (Qd (Qn 14)),Qa (Qv 15) (Qi (Qn 11) 0),Qa (Qv 16) (Qi (Qn 11) 1),Qa (Qv 6) (MOp.alloc [(Qr Qu 0),(Qr Qu 0),(Qr Qu 0),(D.str (ByteArray.mk #[])),(D.sl []),(D.sl []),(Qr Qu 0)]),Qa none (Ql 7 (Qn 6) (Qn 15)),Qa (Qv 7) (Qd (Qn 16))]
def f25_c1:MC:=.reg false f25_r1
def f25_r2:List MO:=[Qa (Qv 17) (Qd (Qn 7)),Qa (Qv 18) (Qe Qt Go.BinOp.eql (Qn 17) (Qo (Qp (Qq (Qr Qu 0))))),Qa (Qv 19) (Qd (Qn 18)),Qb 19 true (Qv 20),Qa (Qv 20) (Qg 0 (Qn 6)),Qb 19 true (Qv 21),Qa (Qv 21) (Qg 0 (Qn 20)),Qb 19 true (Qv 22),Qa (Qv 22) (Qf 1 false (Qn 21)),Qb 19 true (Qv 23),Qa (Qv 23) (Qe Qt Go.BinOp.eql (Qn 22) (Qo (Qp (Qq (Qr Qu 1))))),Qa (Qv 24) (Qm (Qn 19) (Qn 23) (Qo (Qp (Qq (Qs false)))))]
def f25_c2:MC:=.reg false f25_r2
def f25_r3:List MO:=[Qa (Qv 25) (Qg 0 (Qn 6)),Qa (Qv 26) (Qg 5 (Qn 25)),Qa (Qv 27) (Qf 1 false (Qn 26)),Qa (Qv 28) (Qh 49 [(Qn 27)]),Qa (Qv 29) (Qd (Qn 7)),Qa (Qv 4) (Qd (Qn 28)),Qa (Qv 5) (Qd (Qn 29))]
def f25_c3:MC:=.reg false f25_r3
def f25_c4:MC:=MC.ret
def f25_c5:MC:=.seq f25_c3 f25_c4
def f25_c6:MC:=MC.skip
def f25_c7:MC:=.cond (Qn 24) f25_c5 f25_c6
def f25_c8:MC:=.seq f25_c2 f25_c7
def f25_r9:List MO:=[Qa (Qv 8) (Qd (Qo (Qp A.nil)))]
def f25_c9:MC:=.reg false f25_r9
def f25_r10:List MO:=[Qa (Qv 30) (Qf 7 true (Qn 6)),Qa (Qv 31) (Qh 55 [(Qn 30)]),Qa (Qv 32) (Qk Qt (Qn 31)),Qa (Qv 33) (Qd (Qo (Qp (Qq (Qr Qu 0)))))]
def f25_c10:MC:=.reg false f25_r10
def f25_r11:List MO:=[Qa (Qv 34) (Qe Qt Go.BinOp.lss (Qn 33) (Qn 32))]
def f25_c11:MC:=.reg false f25_r11
def f25_c12:MC:=MC.skip
def f25_c13:MC:=(MC.exit 0)
def f25_c14:MC:=.cond (Qn 34) f25_c12 f25_c13
def f25_r15:List MO:=[Qa (Qv 35) (Qj 4 (Qn 31) (Qn 33)),Qa (Qv 36) (Qf 4 true (Qn 35)),Qa (Qv 10) (MOp.alloc [(Qr Qu 0),(Qr Qu 0),(D.str (ByteArray.mk #[])),(Qr Qu 0)]),Qa none (Ql 4 (Qn 10) (Qn 36))]
def f25_c15:MC:=.reg false f25_r15
def f25_r16:List MO:=[Qa (Qv 37) (Qd (Qn 8)),Qa (Qv 38) (Qg 3 (Qn 10)),Qa (Qv 39) (Qf 1 false (Qn 38)),Qa (Qv 40) (MOp.bslice 1 [(Qr Qu 0)] 1 [(0,(Qn 39))]),Qa (Qv 41) (MOp.app 3 1 8 (Qn 37) (Qn 40)),Qa (Qv 8) (Qd (Qn 41))]
def f25_c16:MC:=.reg false f25_r16
def f25_c17:MC:=.seq f25_c15 f25_c16
def f25_c18:MC:=.blk 1 f25_c17
def f25_r19:List MO:=[Qa (Qv 42) (Qe Qt Go.BinOp.add (Qn 33) (Qo (Qp (Qq (Qr Qu 1))))),Qa (Qv 33) (Qd (Qn 42))]
def f25_c19:MC:=.reg false f25_r19
def f25_c20:MC:=.seq f25_c18 f25_c19
def f25_c21:MC:=.seq f25_c14 f25_c20
def f25_c22:MC:=.seq f25_c11 f25_c21
def f25_c23:MC:=.loop f25_c22
def f25_c24:MC:=.blk 0 f25_c23
def f25_c25:MC:=.seq f25_c10 f25_c24
def f25_r26:List MO:=[Qa (Qv 43) (Qd (Qn 8)),Qa (Qv 44) (Qd (Qn 7)),Qa (Qv 4) (Qd (Qn 43)),Qa (Qv 5) (Qd (Qn 44))]
def f25_c26:MC:=.reg false f25_r26
def f25_c27:MC:=MC.ret
def f25_c28:MC:=.seq f25_c26 f25_c27
def f25_c29:MC:=.seq f25_c25 f25_c28
def f25_c30:MC:=.seq f25_c9 f25_c29
def f25_c31:MC:=.seq f25_c8 f25_c30
def f25_c32:MC:=.seq f25_c1 f25_c31
def f25_c33:MC:=.seq f25_c0 f25_c32
noncomputable def f25_code : Code := (f25.body).getD .skip
theorem f25_body : f25.body = Qv f25_code := by kernel_rfl
theorem f25_tr : trC QP [2] f25_code = Qv f25_c33 := by kernel_rfl
theorem f25_rs : rsOf QP f25.results.toList = Qv [(RV.t 4),(RV.t 5)] := by kernel_rfl
theorem f25_nt : f25.ntmps = 45 := by kernel_rfl
theorem f25_ok : callable QP 25 = true := by kernel_rfl
theorem f25_in {gp : Heap} {args : List V} {res : V} (h : G ⟨QP,gp,0,[(RV.t 4),(RV.t 5)],fun r c => r = res /\ c = [],false⟩ [.code f25_c33,.fin] ⟨args ++ List.replicate (45 - args.length) .un,[]⟩) : Does QP gp 25 args res :=
 does_intro f25_ok func25 f25_body f25_tr f25_rs (by rw [f25_nt]; exact h)
theorem f25_tri {gp : Heap} {args : List V} {pre : List Ch} {R : V -> List Ch -> Prop} (h : G ⟨QP,gp,pre.length,[(RV.t 4),(RV.t 5)],R,false⟩ [.code f25_c33,.fin] ⟨args ++ List.replicate (45 - args.length) .un,pre⟩) : Tri QP gp 25 args pre R :=
 tri_intro func25 f25_body f25_tr f25_rs (by rw [f25_nt]; exact h)
def f37_r0:List MO:=[Qa (Qv 1) (MOp.ibox (Qn 0)),Qa (Qv 2) (Qd (Qo (Qp (Qq (Qr Qu 0))))),Qa (Qv 3) (Qd (Qo (Qp (Qq (Qr Qu 0)))))]
def f37_c0:MC:=.reg false f37_r0
def f37_r1:List MO:=[Qa (Qv 4) (Qf 2 true (Qn 1)),Qa (Qv 5) (Qh 69 [(Qn 4)]),Qa (Qv 6) (Qh 68 [(Qn 5)]),Qa (Qv 7) (Qi (Qn 6) 0),Qa (Qv 8) (Qi (Qn 6) 1),Qa (Qv 2) (Qd (Qn 7)),Qa (Qv 3) (Qd (Qn 8))]
def f37_c1:MC:=.reg false f37_r1
def f37_c2:MC:=MC.ret
def f37_c3:MC:=.seq f37_c1 f37_c2
def f37_c4:MC:=.seq f37_c0 f37_c3
attribute [go_sem] f37_r0 f37_r1
noncomputable def f37_code : Code := (f37.body).getD .skip
theorem f37_body : f37.body = Qv f37_code := by kernel_rfl
theorem f37_tr : trC QP [1] f37_code = Qv f37_c4 := by kernel_rfl
theorem f37_rs : rsOf QP f37.results.toList = Qv [(RV.t 2),(RV.t 3)] := by kernel_rfl
theorem f37_nt : f37.ntmps = 9 := by kernel_rfl
theorem f37_ok : callable QP 37 = true := by kernel_rfl
theorem f37_in {gp : Heap} {args : List V} {res : V} (h : G ⟨QP,gp,0,[(RV.t 2),(RV.t 3)],fun r c => r = res /\ c = [],false⟩ [.code f37_c4,.fin] ⟨args ++ List.replicate (9 - args.length) .un,[]⟩) : Does QP gp 37 args res :=
 does_intro f37_ok func37 f37_body f37_tr f37_rs (by rw [f37_nt]; exact h)
def f38_r0:List MO:=[Qa (Qv 2) (MOp.ibox (Qn 0)),Qa (Qv 3) (MOp.ibox (Qn 1)),Qa (Qv 4) (Qd (Qo (Qp (Qq (Qs false)))))]
def f38_c0:MC:=.reg false f38_r0
def f38_r1:List MO:=[Qa (Qv 5) (Qd (Qo (Qp (Qq (D.fn (Go.Fn.func 70) [])))))]
def f38_c1:MC:=.reg false f38_r1
def f38_r2:List MO:=[Qa (Qv 6) (Qg 0 (Qn 2)),Qa (Qv 7) (Qf 1 false (Qn 6)),Qa (Qv 8) (Qg 0 (Qn 3)),Qa (Qv 9) (Qf 1 false (Qn 8)),Qa (Qv 10) (Qe Qt Go.BinOp.eql (Qn 7) (Qn 9)),Qa (Qv 11) (Qd (Qn 10)),Qb 11 true (Qv 12),Qa (Qv 12) (Qg 1 (Qn 2)),Qb 11 true (Qv 13),Qa (Qv 13) (Qf 1 false (Qn 12)),Qb 11 true (Qv 14),Qa (Qv 14) (Qg 1 (Qn 3)),Qb 11 true (Qv 15),Qa (Qv 15) (Qf 1 false (Qn 14)),Qb 11 true (Qv 16),Qa (Qv 16) (Qd (Qn 5)),Qb 11 true (Qv 17),Qa (Qv 17) (Qh 73 [(Qn 13),(Qn 15),(Qn 16)]),Qa (Qv 18) (Qm (Qn 11) (Qn 17) (Qo (Qp (Qq (Qs false))))),Qa (Qv 4) (Qd (Qn 18))]
def f38_c2:MC:=.reg false f38_r2
def f38_c3:MC:=MC.ret
def f38_c4:MC:=.seq f38_c2 f38_c3
def f38_c5:MC:=.seq f38_c1 f38_c4
def f38_c6:MC:=.seq f38_c0 f38_c5
attribute [go_sem] f38_r0 f38_r1 f38_r2
noncomputable def f38_code : Code := (f38.body).getD .skip
theorem f38_body : f38.body = Qv f38_code := by kernel_rfl
theorem f38_tr : trC QP [2,3] f38_code = Qv f38_c6 := by kernel_rfl
theorem f38_rs : rsOf QP f38.results.toList = Qv [(RV.t 4)] := by kernel_rfl
theorem f38_nt : f38.ntmps = 19 := by kernel_rfl
theorem f38_ok : callable QP 38 = true := by kernel_rfl
theorem f38_in {gp : Heap} {args : List V} {res : V} (h : G ⟨QP,gp,0,[(RV.t 4)],fun r c => r = res /\ c = [],false⟩ [.code f38_c6,.fin] ⟨args ++ List.replicate (19 - args.length) .un,[]⟩) : Does QP gp 38 args res :=
 does_intro f38_ok func38 f38_body f38_tr f38_rs (by rw [f38_nt]; exact h)
def f41_r0:List MO:=[Qa (Qv 1) (MOp.ibox (Qn 0)),Qa (Qv 2) (MOp.alloc [(Qr Qu 0),(D.sl [])])]
def f41_c0:MC:=.reg false f41_r0
def f41_r1:List MO:=[Qa (Qv 9) (Qg 0 (Qn 1)),Qa (Qv 10) (Qf 1 false (Qn 9)),Qa (Qv 11) (MOp.build [(Qr Qu 0),(D.sl [])] [(0,(1,(Qn 10)))]),Qa (Qv 3) (MOp.alloc [(Qr Qu 0),(D.sl [])]),Qa none (Ql 2 (Qn 3) (Qn 11))]
def f41_c1:MC:=.reg false f41_r1
def f41_r2:List MO:=[Qa (Qv 4) (Qd (Qo (Qp (Qq (Qr Qu 0)))))]
def f41_c2:MC:=.reg false f41_r2
def f41_r3:List MO:=[Qa (Qv 12) (Qd (Qn 4)),Qa (Qv 13) (Qg 1 (Qn 1)),Qa (Qv 14) (Qf 1 false (Qn 13)),Qa (Qv 15) (Qk Qt (Qn 14)),Qa (Qv 16) (Qe Qt Go.BinOp.lss (Qn 12) (Qn 15)),Qa (Qv 17) (Qd (Qn 16)),Qb 17 true (Qv 18),Qa (Qv 18) (Qd (Qn 4)),Qb 17 true (Qv 19),Qa (Qv 19) (Qe Qt Go.BinOp.lss (Qn 18) (Qo (Qp (Qq (Qr Qu 201))))),Qa (Qv 20) (Qm (Qn 17) (Qn 19) (Qo (Qp (Qq (Qs false)))))]
def f41_c3:MC:=.reg false f41_r3
def f41_c4:MC:=MC.skip
def f41_c5:MC:=(MC.exit 0)
def f41_c6:MC:=.cond (Qn 20) f41_c4 f41_c5
def f41_c7:MC:=.seq f41_c3 f41_c6
def f41_r8:List MO:=[Qa (Qv 23) (Qg 1 (Qn 1)),Qa (Qv 24) (Qf 1 false (Qn 23)),Qa (Qv 25) (Qd (Qn 4)),Qa (Qv 26) (Qj 6 (Qn 24) (Qn 25)),Qa (Qv 27) (Qf 6 true (Qn 26)),Qa (Qv 5) (MOp.alloc [(Qr Qu 0),(Qr Qu 0),(Qr Qu 0),(D.str (ByteArray.mk #[])),(D.sl []),(D.sl [])]),Qa none (Ql 6 (Qn 5) (Qn 27))]
def f41_c8:MC:=.reg false f41_r8
def f41_r9:List MO:=[Qa (Qv 28) (Qg 0 (Qn 5)),Qa (Qv 29) (Qf 1 false (Qn 28)),Qa (Qv 30) (Qg 1 (Qn 5)),Qa (Qv 31) (Qf 3 true (Qn 30)),Qa (Qv 32) (Qh 78 [(Qn 31)]),Qa (Qv 33) (MOp.build [(Qr Qu 0),(Qr Qu 0),(Qr Qu 0),(D.str (ByteArray.mk #[])),(D.sl []),(D.sl [])] [(0,(1,(Qn 29))),(1,(3,(Qn 32)))]),Qa (Qv 6) (MOp.alloc [(Qr Qu 0),(Qr Qu 0),(Qr Qu 0),(D.str (ByteArray.mk #[])),(D.sl []),(D.sl [])]),Qa none (Ql 6 (Qn 6) (Qn 33))]
def f41_c9:MC:=.reg true f41_r9
def f41_r10:List MO:=[Qa (Qv 7) (Qd (Qo (Qp (Qq (Qr Qu 0)))))]
def f41_c10:MC:=.reg false f41_r10
def f41_r11:List MO:=[Qa (Qv 34) (Qd (Qn 7)),Qa (Qv 35) (Qg 4 (Qn 5)),Qa (Qv 36) (Qf 1 false (Qn 35)),Qa (Qv 37) (Qk Qt (Qn 36)),Qa (Qv 38) (Qe Qt Go.BinOp.lss (Qn 34) (Qn 37)),Qa (Qv 39) (Qd (Qn 38)),Qb 39 true (Qv 40),Qa (Qv 40) (Qd (Qn 7)),Qb 39 true (Qv 41),Qa (Qv 41) (Qe Qt Go.BinOp.lss (Qn 40) (Qo (Qp (Qq (Qr Qu 12))))),Qa (Qv 42) (Qm (Qn 39) (Qn 41) (Qo (Qp (Qq (Qs false)))))]
def f41_c11:MC:=.reg false f41_r11
def f41_c12:MC:=MC.skip
def f41_c13:MC:=(MC.exit 2)
def f41_c14:MC:=.cond (Qn 42) f41_c12 f41_c13
def f41_c15:MC:=.seq f41_c11 f41_c14
def f41_r16:List MO:=[Qa (Qv 45) (Qg 4 (Qn 6)),Qa (Qv 46) (Qf 1 false (Qn 45)),Qa (Qv 47) (Qg 4 (Qn 5)),Qa (Qv 48) (Qf 1 false (Qn 47)),Qa (Qv 49) (Qd (Qn 7)),Qa (Qv 50) (Qj 3 (Qn 48) (Qn 49)),Qa (Qv 51) (Qf 3 true (Qn 50)),Qa (Qv 52) (Qh 78 [(Qn 51)]),Qa (Qv 53) (MOp.bslice 3 [(Qr Qu 0),(Qr Qu 0),(D.str (ByteArray.mk #[]))] 1 [(0,(Qn 52))]),Qa (Qv 54) (MOp.app 41 3 32 (Qn 46) (Qn 53)),Qa (Qv 55) (Qg 4 (Qn 6)),Qa none (Ql 1 (Qn 55) (Qn 54))]
def f41_c16:MC:=.reg true f41_r16
def f41_c17:MC:=.blk 3 f41_c16
def f41_r18:List MO:=[Qa (Qv 43) (Qd (Qn 7)),Qa (Qv 44) (Qe Qt Go.BinOp.add (Qn 43) (Qo (Qp (Qq (Qr Qu 1))))),Qa (Qv 7) (Qd (Qn 44))]
def f41_c18:MC:=.reg false f41_r18
def f41_c19:MC:=.seq f41_c17 f41_c18
def f41_c20:MC:=.seq f41_c15 f41_c19
def f41_c21:MC:=.loop f41_c20
def f41_c22:MC:=.blk 2 f41_c21
def f41_c23:MC:=.seq f41_c10 f41_c22
def f41_r24:List MO:=[Qa (Qv 8) (Qd (Qo (Qp (Qq (Qr Qu 0)))))]
def f41_c24:MC:=.reg false f41_r24
def f41_r25:List MO:=[Qa (Qv 56) (Qd (Qn 8)),Qa (Qv 57) (Qg 5 (Qn 5)),Qa (Qv 58) (Qf 1 false (Qn 57)),Qa (Qv 59) (Qk Qt (Qn 58)),Qa (Qv 60) (Qe Qt Go.BinOp.lss (Qn 56) (Qn 59)),Qa (Qv 61) (Qd (Qn 60)),Qb 61 true (Qv 62),Qa (Qv 62) (Qd (Qn 8)),Qb 61 true (Qv 63),Qa (Qv 63) (Qe Qt Go.BinOp.lss (Qn 62) (Qo (Qp (Qq (Qr Qu 12))))),Qa (Qv 64) (Qm (Qn 61) (Qn 63) (Qo (Qp (Qq (Qs false)))))]
def f41_c25:MC:=.reg false f41_r25
def f41_c26:MC:=MC.skip
def f41_c27:MC:=(MC.exit 4)
def f41_c28:MC:=.cond (Qn 64) f41_c26 f41_c27
def f41_c29:MC:=.seq f41_c25 f41_c28
def f41_r30:List MO:=[Qa (Qv 67) (Qg 5 (Qn 6)),Qa (Qv 68) (Qf 1 false (Qn 67)),Qa (Qv 69) (Qg 5 (Qn 5)),Qa (Qv 70) (Qf 1 false (Qn 69)),Qa (Qv 71) (Qd (Qn 8)),Qa (Qv 72) (Qj 1 (Qn 70) (Qn 71)),Qa (Qv 73) (Qf 1 false (Qn 72)),Qa (Qv 74) (MOp.bslice 1 [(Qr Qu 0)] 1 [(0,(Qn 73))]),Qa (Qv 75) (MOp.app 3 1 8 (Qn 68) (Qn 74)),Qa (Qv 76) (Qg 5 (Qn 6)),Qa none (Ql 1 (Qn 76) (Qn 75))]
def f41_c30:MC:=.reg true f41_r30
def f41_c31:MC:=.blk 5 f41_c30
def f41_r32:List MO:=[Qa (Qv 65) (Qd (Qn 8)),Qa (Qv 66) (Qe Qt Go.BinOp.add (Qn 65) (Qo (Qp (Qq (Qr Qu 1))))),Qa (Qv 8) (Qd (Qn 66))]
def f41_c32:MC:=.reg false f41_r32
def f41_c33:MC:=.seq f41_c31 f41_c32
def f41_c34:MC:=.seq f41_c29 f41_c33
def f41_c35:MC:=.loop f41_c34
def f41_c36:MC:=.blk 4 f41_c35
def f41_c37:MC:=.seq f41_c24 f41_c36
def f41_r38:List MO:=[Qa (Qv 77) (Qg 1 (Qn 3)),Qa (Qv 78) (Qf 1 false (Qn 77)),Qa (Qv 79) (Qf 6 true (Qn 6)),Qa (Qv 80) (MOp.bslice 6 [(Qr Qu 0),(Qr Qu 0),(Qr Qu 0),(D.str (ByteArray.mk #[])),(D.sl []),(D.sl [])] 1 [(0,(Qn 79))]),Qa (Qv 81) (MOp.app 44 6 88 (Qn 78) (Qn 80)),Qa (Qv 82) (Qg 1 (Qn 3)),Qa none (Ql 1 (Qn 82) (Qn 81))]
def f41_c38:MC:=.reg false f41_r38
def f41_c39:MC:=.seq f41_c37 f41_c38
def f41_c40:MC:=.seq f41_c23 f41_c39
def f41_c41:MC:=.seq f41_c9 f41_c40
def f41_c42:MC:=.seq f41_c8 f41_c41
def f41_c43:MC:=.blk 1 f41_c42
def f41_r44:List MO:=[Qa (Qv 21) (Qd (Qn 4)),Qa (Qv 22) (Qe Qt Go.BinOp.add (Qn 21) (Qo (Qp (Qq (Qr Qu 1))))),Qa (Qv 4) (Qd (Qn 22))]
def f41_c44:MC:=.reg false f41_r44
def f41_c45:MC:=.seq f41_c43 f41_c44
def f41_c46:MC:=.seq f41_c7 f41_c45
def f41_c47:MC:=.loop f41_c46
def f41_c48:MC:=.blk 0 f41_c47
def f41_c49:MC:=.seq f41_c2 f41_c48
def f41_r50:List MO:=[Qa (Qv 83) (Qf 2 true (Qn 3)),Qa none (Ql 2 (Qn 2) (Qn 83))]
def f41_c50:MC:=.reg false f41_r50
def f41_c51:MC:=MC.ret
def f41_c52:MC:=.seq f41_c50 f41_c51
def f41_c53:MC:=.seq f41_c49 f41_c52
def f41_c54:MC:=.seq f41_c1 f41_c53
def f41_c55:MC:=.seq f41_c0 f41_c54
attribute [go_sem] f41_r0 f41_r1 f41_r2 f41_r3 f41_r8 f41_r9 f41_r10 f41_r11 f41_r16 f41_r18 f41_r24 f41_r25 f41_r30 f41_r32 f41_r38 f41_r44 f41_r50
noncomputable def f41_code : Code := (f41.body).getD .skip
theorem f41_body : f41.body = Qv f41_code := by kernel_rfl
theorem f41_tr : trC QP [1] f41_code = Qv f41_c55 := by kernel_rfl
theorem f41_rs : rsOf QP f41.results.toList = Qv [(RV.cell 2 2 true)] := by kernel_rfl
theorem f41_nt : f41.ntmps = 84 := by kernel_rfl
theorem f41_ok : callable QP 41 = true := by kernel_rfl
theorem f41_in {gp : Heap} {args : List V} {res : V} (h : G ⟨QP,gp,0,[(RV.cell 2 2 true)],fun r c => r = res /\ c = [],false⟩ [.code f41_c55,.fin] ⟨args ++ List.replicate (84 - args.length) .un,[]⟩) : Does QP gp 41 args res :=
 does_intro f41_ok func41 f41_body f41_tr f41_rs (by rw [f41_nt]; exact h)
def f49_r0:List MO:=[Qa (Qv 2) (Qd (Qo (Qp A.nil)))]
def f49_c0:MC:=.reg false f49_r0
def f49_r1:List MO:=[Qa (Qv 3) (Qd (Qn 0)),Qa (Qv 4) (MOp.nilq NK.sl false (Qn 3))]
def f49_c1:MC:=.reg false f49_r1
def f49_r2:List MO:=[Qa (Qv 2) (Qd (Qo (Qp A.nil)))]
def f49_c2:MC:=.reg false f49_r2
def f49_c3:MC:=MC.ret
def f49_c4:MC:=.seq f49_c2 f49_c3
def f49_c5:MC:=MC.skip
def f49_c6:MC:=.cond (Qn 4) f49_c4 f49_c5
def f49_c7:MC:=.seq f49_c1 f49_c6
def f49_r8:List MO:=[Qa (Qv 5) (MOp.bslO 1 [(Qr Qu 0)] 0 []),Qa (Qv 6) (Qd (Qn 0)),Qa (Qv 7) (MOp.app 3 1 8 (Qn 5) (Qn 6)),Qa (Qv 2) (Qd (Qn 7))]
def f49_c8:MC:=.reg false f49_r8
def f49_c9:MC:=MC.ret
def f49_c10:MC:=.seq f49_c8 f49_c9
def f49_c11:MC:=.seq f49_c7 f49_c10
def f49_c12:MC:=.seq f49_c0 f49_c11
noncomputable def f49_code : Code := (f49.body).getD .skip
theorem f49_body : f49.body = Qv f49_code := by kernel_rfl
theorem f49_tr : trC QP [5] f49_code = Qv f49_c12 := by kernel_rfl
theorem f49_rs : rsOf QP f49.results.toList = Qv [(RV.t 2)] := by kernel_rfl
theorem f49_nt : f49.ntmps = 8 := by kernel_rfl
theorem f49_ok : callable QP 49 = true := by kernel_rfl
theorem f49_in {gp : Heap} {args : List V} {res : V} (h : G ⟨QP,gp,0,[(RV.t 2)],fun r c => r = res /\ c = [],false⟩ [.code f49_c12,.fin] ⟨args ++ List.replicate (8 - args.length) .un,[]⟩) : Does QP gp 49 args res :=
 does_intro f49_ok func49 f49_body f49_tr f49_rs (by rw [f49_nt]; exact h)
theorem f49_tri {gp : Heap} {args : List V} {pre : List Ch} {R : V -> List Ch -> Prop} (h : G ⟨QP,gp,pre.length,[(RV.t 2)],R,false⟩ [.code f49_c12,.fin] ⟨args ++ List.replicate (8 - args.length) .un,pre⟩) : Tri QP gp 49 args pre R :=
 tri_intro func49 f49_body f49_tr f49_rs (by rw [f49_nt]; exact h)
def f54_r0:List MO:=[Qa (Qv 2) (MOp.ibox (Qn 0)),Qa (Qv 4) (MOp.alloc [(Qr Qu 0),(Qr Qu 0),(Qr Qu 0),(D.str (ByteArray.mk #[])),(D.sl []),(D.sl []),(Qr Qu 0)]),Qa (Qv 5) (Qd (Qo (Qp (Qq (Qr Qu 0)))))]
def f54_c0:MC:=.reg false f54_r0
def f54_r1:List MO:=[Qa (Qv 6) (Qf 2 true (Qn 2)),Qa (Qv 7) (Qd (Qn 1)),Qa (Qv 8) (Qh 86 [(Qn 6),(Qn 7)]),Qa (Qv 9) (MOp.not (Qn 8))]
def f54_c1:MC:=.reg false f54_r1
def f54_r2:List MO:=[Qa (Qv 10) (MOp.build [(Qr Qu 0),(Qr Qu 0),(Qr Qu 0),(D.str (ByteArray.mk #[])),(D.sl []),(D.sl []),(Qr Qu 0)] []),Qa none (Ql 7 (Qn 4) (Qn 10)),Qa (Qv 5) (Qd (Qo (Qp (Qq (Qr Qu 2)))))]
def f54_c2:MC:=.reg false f54_r2
def f54_c3:MC:=MC.ret
def f54_c4:MC:=.seq f54_c2 f54_c3
def f54_c5:MC:=MC.skip
def f54_c6:MC:=.cond (Qn 9) f54_c4 f54_c5
def f54_c7:MC:=.seq f54_c1 f54_c6
def f54_r8:List MO:=[Qa (Qv 11) (Qg 1 (Qn 2)),Qa (Qv 12) (Qf 1 false (Qn 11)),Qa (Qv 13) (Qd (Qn 1)),Qa (Qv 14) (Qj 6 (Qn 12) (Qn 13)),Qa (Qv 15) (Qf 6 true (Qn 14)),Qa (Qv 16) (Qg 1 (Qn 2)),Qa (Qv 17) (Qf 1 false (Qn 16)),Qa (Qv 18) (Qk Qt (Qn 17)),Qa (Qv 19) (MOp.build [(Qr Qu 0),(Qr Qu 0),(Qr Qu 0),(D.str (ByteArray.mk #[])),(D.sl []),(D.sl []),(Qr Qu 0)] [(0,(6,(Qn 15))),(6,(1,(Qn 18)))]),Qa none (Ql 7 (Qn 4) (Qn 19)),Qa (Qv 5) (Qd (Qo (Qp (Qq (Qr Qu 0)))))]
def f54_c8:MC:=.reg true f54_r8
def f54_c9:MC:=MC.ret
def f54_c10:MC:=.seq f54_c8 f54_c9
def f54_c11:MC:=.seq f54_c7 f54_c10
def f54_c12:MC:=.seq f54_c0 f54_c11
attribute [go_sem] f54_r0 f54_r1 f54_r2 f54_r8
noncomputable def f54_code : Code := (f54.body).getD .skip
theorem f54_body : f54.body = Qv f54_code := by kernel_rfl
theorem f54_tr : trC QP [2] f54_code = Qv f54_c12 := by kernel_rfl
theorem f54_rs : rsOf QP f54.results.toList = Qv [(RV.cell 4 7 true),(RV.t 5)] := by kernel_rfl
theorem f54_nt : f54.ntmps = 20 := by kernel_rfl
theorem f54_ok : callable QP 54 = true := by kernel_rfl
theorem f54_in {gp : Heap} {args : List V} {res : V} (h : G ⟨QP,gp,0,[(RV.cell 4 7 true),(RV.t 5)],fun r c => r = res /\ c = [],false⟩ [.code f54_c12,.fin] ⟨args ++ List.replicate (20 - args.length) .un,[]⟩) : Does QP gp 54 args res :=
 does_intro f54_ok func54 f54_body f54_tr f54_rs (by rw [f54_nt]; exact h)
def f55_r0:List MO:=[Qa (Qv 1) (MOp.ibox (Qn 0)),Qa (Qv 2) (Qd (Qo (Qp A.nil)))]
def f55_c0:MC:=.reg false f55_r0
def f55_r1:List MO:=[Qa (Qv 6) (Qg 0 (Qn 1)),Qa (Qv 7) (Qg 0 (Qn 6)),Qa (Qv 8) (Qf 1 false (Qn 7)),Qa (Qv 9) (Qe Qt Go.BinOp.neq (Qn 8) (Qo (Qp (Qq (Qr Qu 2))))),Qa (Qv 10) (Qd (Qn 9)),Qb 10 false (Qv 11),Qa (Qv 11) (Qf 7 true (Qn 1)),Qb 10 false (Qv 12),Qa (Qv 12) (Qh 87 [(Qn 11)]),Qb 10 false (Qv 13),Qa (Qv 13) (MOp.not (Qn 12)),Qa (Qv 14) (Qm (Qn 10) (Qo (Qp (Qq (Qs true)))) (Qn 13))]
def f55_c1:MC:=.reg false f55_r1
def f55_r2:List MO:=[Qa (Qv 2) (Qd (Qo (Qp A.nil)))]
def f55_c2:MC:=.reg false f55_r2
def f55_c3:MC:=MC.ret
def f55_c4:MC:=.seq f55_c2 f55_c3
def f55_c5:MC:=MC.skip
def f55_c6:MC:=.cond (Qn 14) f55_c4 f55_c5
def f55_c7:MC:=.seq f55_c1 f55_c6
def f55_r8:List MO:=[Qa (Qv 3) (Qd (Qo (Qp A.nil)))]
def f55_c8:MC:=.reg false f55_r8
def f55_r9:List MO:=[Qa (Qv 15) (Qg 0 (Qn 1)),Qa (Qv 16) (Qg 4 (Qn 15)),Qa (Qv 17) (Qf 1 false (Qn 16)),Qa (Qv 18) (Qk Qt (Qn 17)),Qa (Qv 19) (Qd (Qo (Qp (Qq (Qr Qu 0)))))]
def f55_c9:MC:=.reg false f55_r9
def f55_r10:List MO:=[Qa (Qv 20) (Qe Qt Go.BinOp.lss (Qn 19) (Qn 18))]
def f55_c10:MC:=.reg false f55_r10
def f55_c11:MC:=MC.skip
def f55_c12:MC:=(MC.exit 0)
def f55_c13:MC:=.cond (Qn 20) f55_c11 f55_c12
def f55_r14:List MO:=[Qa (Qv 21) (Qd (Qn 19)),Qa (Qv 22) (Qj 3 (Qn 17) (Qn 19)),Qa (Qv 23) (Qf 3 true (Qn 22)),Qa (Qv 5) (MOp.alloc [(Qr Qu 0),(Qr Qu 0),(D.str (ByteArray.mk #[]))]),Qa (Qv 4) (Qd (Qn 21)),Qa none (Ql 3 (Qn 5) (Qn 23))]
def f55_c14:MC:=.reg false f55_r14
def f55_r15:List MO:=[Qa (Qv 24) (Qd (Qn 3)),Qa (Qv 25) (Qf 3 true (Qn 5)),Qa (Qv 26) (Qg 0 (Qn 1)),Qa (Qv 27) (Qg 5 (Qn 26)),Qa (Qv 28) (Qf 1 false (Qn 27)),Qa (Qv 29) (Qd (Qn 4)),Qa (Qv 30) (Qj 1 (Qn 28) (Qn 29)),Qa (Qv 31) (Qf 1 false (Qn 30)),Qa (Qv 32) (MOp.build [(Qr Qu 0),(Qr Qu 0),(D.str (ByteArray.mk #[])),(Qr Qu 0)] [(0,(3,(Qn 25))),(3,(1,(Qn 31)))]),Qa (Qv 33) (MOp.bslice 4 [(Qr Qu 0),(Qr Qu 0),(D.str (ByteArray.mk #[])),(Qr Qu 0)] 1 [(0,(Qn 32))]),Qa (Qv 34) (MOp.app 88 4 40 (Qn 24) (Qn 33)),Qa (Qv 3) (Qd (Qn 34))]
def f55_c15:MC:=.reg true f55_r15
def f55_c16:MC:=.seq f55_c14 f55_c15
def f55_c17:MC:=.blk 1 f55_c16
def f55_r18:List MO:=[Qa (Qv 35) (Qe Qt Go.BinOp.add (Qn 19) (Qo (Qp (Qq (Qr Qu 1))))),Qa (Qv 19) (Qd (Qn 35))]
def f55_c18:MC:=.reg false f55_r18
def f55_c19:MC:=.seq f55_c17 f55_c18
def f55_c20:MC:=.seq f55_c13 f55_c19
def f55_c21:MC:=.seq f55_c10 f55_c20
def f55_c22:MC:=.loop f55_c21
def f55_c23:MC:=.blk 0 f55_c22
def f55_c24:MC:=.seq f55_c9 f55_c23
def f55_r25:List MO:=[Qa (Qv 36) (Qd (Qn 3)),Qa (Qv 37) (Qh 88 [(Qn 36),(Qo (Qp (Qq (D.fn (Go.Fn.func 89) []))))])]
def f55_c25:MC:=.reg false f55_r25
def f55_r26:List MO:=[Qa (Qv 38) (Qd (Qn 3)),Qa (Qv 2) (Qd (Qn 38))]
def f55_c26:MC:=.reg false f55_r26
def f55_c27:MC:=MC.ret
def f55_c28:MC:=.seq f55_c26 f55_c27
def f55_c29:MC:=.seq f55_c25 f55_c28
def f55_c30:MC:=.seq f55_c24 f55_c29
def f55_c31:MC:=.seq f55_c8 f55_c30
def f55_c32:MC:=.seq f55_c7 f55_c31
def f55_c33:MC:=.seq f55_c0 f55_c32
attribute [go_sem] f55_r0 f55_r1 f55_r2 f55_r8 f55_r9 f55_r10 f55_r14 f55_r15 f55_r18 f55_r25 f55_r26
noncomputable def f55_code : Code := (f55.body).getD .skip
theorem f55_body : f55.body = Qv f55_code := by kernel_rfl
theorem f55_tr : trC QP [1] f55_code = Qv f55_c33 := by kernel_rfl
theorem f55_rs : rsOf QP f55.results.toList = Qv [(RV.t 2)] := by kernel_rfl
theorem f55_nt : f55.ntmps = 39 := by kernel_rfl
theorem f55_ok : callable QP 55 = true := by kernel_rfl
theorem f55_in {gp : Heap} {args : List V} {res : V} (h : G ⟨QP,gp,0,[(RV.t 2)],fun r c => r = res /\ c = [],false⟩ [.code f55_c33,.fin] ⟨args ++ List.replicate (39 - args.length) .un,[]⟩) : Does QP gp 55 args res :=
 does_intro f55_ok func55 f55_body f55_tr f55_rs (by rw [f55_nt]; exact h)
def f68_r0:List MO:=[Qa (Qv 2) (Qd (Qo (Qp (Qq (Qr Qu 0))))),Qa (Qv 3) (Qd (Qo (Qp (Qq (Qr Qu 0)))))]
def f68_c0:MC:=.reg false f68_r0
def f68_r1:List MO:=[Qa (Qv 4) (MOp.alloc [(Qr Qu 0),(Qr Qu 0)])]
def f68_c1:MC:=.reg false f68_r1
def f68_r2:List MO:=[Qa (Qv 5) (Qd (Qn 0)),Qa (Qv 6) (MOp.mkI 147 (Qn 4)),Qa (Qv 7) (Qh 91 [(Qn 5),(Qn 6)])]
def f68_c2:MC:=.reg false f68_r2
def f68_r3:List MO:=[Qa (Qv 8) (Qg 0 (Qn 4)),Qa (Qv 9) (Qf 1 false (Qn 8)),Qa (Qv 10) (Qg 1 (Qn 4)),Qa (Qv 11) (Qf 1 false (Qn 10)),Qa (Qv 2) (Qd (Qn 9)),Qa (Qv 3) (Qd (Qn 11))]
def f68_c3:MC:=.reg true f68_r3
def f68_c4:MC:=MC.ret
def f68_c5:MC:=.seq f68_c3 f68_c4
def f68_c6:MC:=MC.skip
def f68_c7:MC:=.cond (Qn 7) f68_c5 f68_c6
def f68_c8:MC:=.seq f68_c2 f68_c7
def f68_r9:List MO:=[Qa (Qv 2) (Qd (Qo (Qp (Qq (Qr Qu 0))))),Qa (Qv 3) (Qd (Qo (Qp (Qq (Qr Qu 0)))))]
def f68_c9:MC:=.reg false f68_r9
def f68_c10:MC:=MC.ret
def f68_c11:MC:=.seq f68_c9 f68_c10
def f68_c12:MC:=.seq f68_c8 f68_c11
def f68_c13:MC:=.seq f68_c1 f68_c12
def f68_c14:MC:=.seq f68_c0 f68_c13
attribute [go_sem] f68_r0 f68_r1 f68_r2 f68_r3 f68_r9
noncomputable def f68_code : Code := (f68.body).getD .skip
theorem f68_body : f68.body = Qv f68_code := by kernel_rfl
theorem f68_tr : trC QP [] f68_code = Qv f68_c14 := by kernel_rfl
theorem f68_rs : rsOf QP f68.results.toList = Qv [(RV.t 2),(RV.t 3)] := by kernel_rfl
theorem f68_nt : f68.ntmps = 12 := by kernel_rfl
theorem f68_ok : callable QP 68 = true := by kernel_rfl
theorem f68_in {gp : Heap} {args : List V} {res : V} (h : G ⟨QP,gp,0,[(RV.t 2),(RV.t 3)],fun r c => r = res /\ c = [],false⟩ [.code f68_c14,.fin] ⟨args ++ List.replicate (12 - args.length) .un,[]⟩) : Does QP gp 68 args res :=
 does_intro f68_ok func68 f68_body f68_tr f68_rs (by rw [f68_nt]; exact h)
def f69_r0:List MO:=[Qa (Qv 1) (MOp.ibox (Qn 0)),Qa (Qv 2) (MOp.alloc [D.nilI])]
def f69_c0:MC:=.reg false f69_r0
def f69_r1:List MO:=[Qa (Qv 6) (Qg 1 (Qn 1)),Qa (Qv 7) (Qf 1 false (Qn 6)),Qa (Qv 8) (Qk Qt (Qn 7)),Qa (Qv 9) (Qe Qt Go.BinOp.gtr (Qn 8) (Qo (Qp (Qq (Qr Qu 200))))),Qa (Qv 5) (Qd (Qn 9))]
def f69_c1:MC:=.reg false f69_r1
def f69_r2:List MO:=[Qa (Qv 10) (MOp.build [(Qr Qu 0),(Qr Qu 0)] [(0,(1,(Qo (Qp (Qq (Qr Qu 0)))))),(1,(1,(Qo (Qp (Qq (Qr Qu 71))))))]),Qa (Qv 11) (MOp.mkI 146 (Qn 10)),Qa none (Ql 1 (Qn 2) (Qn 11))]
def f69_c2:MC:=.reg false f69_r2
def f69_c3:MC:=MC.ret
def f69_c4:MC:=.seq f69_c2 f69_c3
def f69_r5:List MO:=[Qa (Qv 13) (Qf 2 true (Qn 1)),Qa (Qv 14) (Qg 0 (Qn 1)),Qa (Qv 15) (Qf 1 false (Qn 14)),Qa (Qv 16) (Qh 86 [(Qn 13),(Qn 15)]),Qa (Qv 17) (MOp.not (Qn 16)),Qa (Qv 12) (Qd (Qn 17))]
def f69_c5:MC:=.reg false f69_r5
def f69_r6:List MO:=[Qa (Qv 18) (MOp.build [(Qr Qu 0),(Qr Qu 0)] [(0,(1,(Qo (Qp (Qq (Qr Qu (-1))))))),(1,(1,(Qo (Qp (Qq (Qr Qu 70))))))]),Qa (Qv 19) (MOp.mkI 146 (Qn 18)),Qa none (Ql 1 (Qn 2) (Qn 19))]
def f69_c6:MC:=.reg false f69_r6
def f69_c7:MC:=MC.ret
def f69_c8:MC:=.seq f69_c6 f69_c7
def f69_c9:MC:=MC.skip
def f69_c10:MC:=.cond (Qn 12) f69_c8 f69_c9
def f69_c11:MC:=.seq f69_c5 f69_c10
def f69_c12:MC:=.cond (Qn 5) f69_c4 f69_c11
def f69_c13:MC:=.seq f69_c1 f69_c12
def f69_c14:MC:=.blk 0 f69_c13
def f69_r15:List MO:=[Qa (Qv 20) (Qf 2 true (Qn 1)),Qa (Qv 21) (Qh 96 [(Qn 20)])]
def f69_c15:MC:=.reg false f69_r15
def f69_r16:List MO:=[Qa (Qv 3) (Qd (Qn 22))]
def f69_c16:MC:=.reg false f69_r16
def f69_r17:List MO:=[Qa (Qv 4) (MOp.alloc [(Qr Qu 0),(Qr Qu 0),(Qr Qu 0),(D.str (ByteArray.mk #[])),(D.sl []),(D.sl []),(Qr Qu 0)]),Qa none (Ql 7 (Qn 4) (Qn 23))]
def f69_c17:MC:=.reg false f69_r17
def f69_c18:MC:=.seq f69_c16 f69_c17
def f69_r19:List MO:=[Qa (Qv 24) (Qf 7 true (Qn 4)),Qa (Qv 25) (Qh 97 [(Qn 24)]),Qa (Qv 26) (MOp.not (Qn 25))]
def f69_c19:MC:=.reg false f69_r19
def f69_r20:List MO:=[Qa (Qv 27) (Qd (Qn 3)),Qa (Qv 28) (MOp.build [(Qr Qu 0),(Qr Qu 0)] [(0,(1,(Qn 27))),(1,(1,(Qo (Qp (Qq (Qr Qu 70))))))]),Qa (Qv 29) (MOp.mkI 146 (Qn 28)),Qa none (Ql 1 (Qn 2) (Qn 29))]
def f69_c20:MC:=.reg false f69_r20
def f69_c21:MC:=MC.ret
def f69_c22:MC:=.seq f69_c20 f69_c21
def f69_c23:MC:=MC.skip
def f69_c24:MC:=.cond (Qn 26) f69_c22 f69_c23
def f69_c25:MC:=.seq f69_c19 f69_c24
def f69_c26:MC:=.blk 2 f69_c25
def f69_c27:MC:=.rf (Qn 21) [22,23] f69_c18 f69_c26
def f69_c28:MC:=.blk 1 f69_c27
def f69_c29:MC:=.seq f69_c15 f69_c28
def f69_r30:List MO:=[Qa none (Ql 1 (Qn 2) (Qo (Qp (Qq D.nilI))))]
def f69_c30:MC:=.reg false f69_r30
def f69_c31:MC:=MC.ret
def f69_c32:MC:=.seq f69_c30 f69_c31
def f69_c33:MC:=.seq f69_c29 f69_c32
def f69_c34:MC:=.seq f69_c14 f69_c33
def f69_c35:MC:=.seq f69_c0 f69_c34
attribute [go_sem] f69_r0 f69_r1 f69_r2 f69_r5 f69_r6 f69_r15 f69_r16 f69_r17 f69_r19 f69_r20 f69_r30
noncomputable def f69_code : Code := (f69.body).getD .skip
theorem f69_body : f69.body = Qv f69_code := by kernel_rfl
theorem f69_tr : trC QP [1] f69_code = Qv f69_c35 := by kernel_rfl
theorem f69_rs : rsOf QP f69.results.toList = Qv [(RV.cell 2 1 false)] := by kernel_rfl
theorem f69_nt : f69.ntmps = 30 := by kernel_rfl
theorem f69_ok : callable QP 69 = true := by kernel_rfl
theorem f69_in {gp : Heap} {args : List V} {res : V} (h : G ⟨QP,gp,0,[(RV.cell 2 1 false)],fun r c => r = res /\ c = [],false⟩ [.code f69_c35,.fin] ⟨args ++ List.replicate (30 - args.length) .un,[]⟩) : Does QP gp 69 args res :=
 does_intro f69_ok func69 f69_body f69_tr f69_rs (by rw [f69_nt]; exact h)
def f70_r0:List MO:=[Qa (Qv 2) (MOp.ibox (Qn 0)),Qa (Qv 3) (MOp.ibox (Qn 1)),Qa (Qv 4) (Qd (Qo (Qp (Qq (Qs false)))))]
def f70_c0:MC:=.reg false f70_r0
def f70_r1:List MO:=[Qa (Qv 5) (Qg 0 (Qn 2)),Qa (Qv 6) (Qf 1 false (Qn 5)),Qa (Qv 7) (Qg 0 (Qn 3)),Qa (Qv 8) (Qf 1 false (Qn 7)),Qa (Qv 9) (Qe Qt Go.BinOp.eql (Qn 6) (Qn 8)),Qa (Qv 10) (Qd (Qn 9)),Qb 10 true (Qv 11),Qa (Qv 11) (Qg 1 (Qn 2)),Qb 10 true (Qv 12),Qa (Qv 12) (Qf 3 true (Qn 11)),Qb 10 true (Qv 13),Qa (Qv 13) (Qg 1 (Qn 3)),Qb 10 true (Qv 14),Qa (Qv 14) (Qf 3 true (Qn 13)),Qb 10 true (Qv 15),Qa (Qv 15) (MOp.eqs false [Qt,Qt,Leaf.s] (Qn 12) (Qn 14)),Qa (Qv 16) (Qm (Qn 10) (Qn 15) (Qo (Qp (Qq (Qs false))))),Qa (Qv 17) (Qd (Qn 16)),Qb 17 true (Qv 18),Qa (Qv 18) (Qg 4 (Qn 2)),Qb 17 true (Qv 19),Qa (Qv 19) (Qf 1 false (Qn 18)),Qb 17 true (Qv 20),Qa (Qv 20) (Qg 4 (Qn 3)),Qb 17 true (Qv 21),Qa (Qv 21) (Qf 1 false (Qn 20)),Qb 17 true (Qv 22),Qa (Qv 22) (Qh 71 [(Qn 19),(Qn 21)]),Qa (Qv 23) (Qm (Qn 17) (Qn 22) (Qo (Qp (Qq (Qs false))))),Qa (Qv 24) (Qd (Qn 23)),Qb 24 true (Qv 25),Qa (Qv 25) (Qg 5 (Qn 2)),Qb 24 true (Qv 26),Qa (Qv 26) (Qf 1 false (Qn 25)),Qb 24 true (Qv 27),Qa (Qv 27) (Qg 5 (Qn 3)),Qb 24 true (Qv 28),Qa (Qv 28) (Qf 1 false (Qn 27)),Qb 24 true (Qv 29),Qa (Qv 29) (Qh 72 [(Qn 26),(Qn 28)]),Qa (Qv 30) (Qm (Qn 24) (Qn 29) (Qo (Qp (Qq (Qs false))))),Qa (Qv 4) (Qd (Qn 30))]
def f70_c1:MC:=.reg false f70_r1
def f70_c2:MC:=MC.ret
def f70_c3:MC:=.seq f70_c1 f70_c2
def f70_c4:MC:=.seq f70_c0 f70_c3
attribute [go_sem] f70_r0 f70_r1
noncomputable def f70_code : Code := (f70.body).getD .skip
theorem f70_body : f70.body = Qv f70_code := by kernel_rfl
theorem f70_tr : trC QP [2,3] f70_code = Qv f70_c4 := by kernel_rfl
theorem f70_rs : rsOf QP f70.results.toList = Qv [(RV.t 4)] := by kernel_rfl
theorem f70_nt : f70.ntmps = 31 := by kernel_rfl
theorem f70_ok : callable QP 70 = true := by kernel_rfl
theorem f70_in {gp : Heap} {args : List V} {res : V} (h : G ⟨QP,gp,0,[(RV.t 4)],fun r c => r = res /\ c = [],false⟩ [.code f70_c4,.fin] ⟨args ++ List.replicate (31 - args.length) .un,[]⟩) : Does QP gp 70 args res :=
 does_intro f70_ok func70 f70_body f70_tr f70_rs (by rw [f70_nt]; exact h)
def f71_r0:List MO:=[Qa (Qv 4) (Qd (Qo (Qp (Qq (Qs false)))))]
def f71_c0:MC:=.reg false f71_r0
def f71_r1:List MO:=[Qa (Qv 6) (Qd (Qn 0)),Qa (Qv 7) (Qk Qt (Qn 6)),Qa (Qv 8) (Qd (Qn 1)),Qa (Qv 9) (Qk Qt (Qn 8)),Qa (Qv 10) (Qe Qt Go.BinOp.neq (Qn 7) (Qn 9))]
def f71_c1:MC:=.reg false f71_r1
def f71_r2:List MO:=[Qa (Qv 4) (Qd (Qo (Qp (Qq (Qs false)))))]
def f71_c2:MC:=.reg false f71_r2
def f71_c3:MC:=MC.ret
def f71_c4:MC:=.seq f71_c2 f71_c3
def f71_c5:MC:=MC.skip
def f71_c6:MC:=.cond (Qn 10) f71_c4 f71_c5
def f71_c7:MC:=.seq f71_c1 f71_c6
def f71_r8:List MO:=[Qa (Qv 11) (Qd (Qn 0)),Qa (Qv 12) (Qk Qt (Qn 11)),Qa (Qv 13) (Qd (Qo (Qp (Qq (Qr Qu 0)))))]
def f71_c8:MC:=.reg false f71_r8
def f71_r9:List MO:=[Qa (Qv 14) (Qe Qt Go.BinOp.lss (Qn 13) (Qn 12))]
def f71_c9:MC:=.reg false f71_r9
def f71_c10:MC:=MC.skip
def f71_c11:MC:=(MC.exit 0)
def f71_c12:MC:=.cond (Qn 14) f71_c10 f71_c11
def f71_r13:List MO:=[Qa (Qv 15) (Qd (Qn 13)),Qa (Qv 5) (Qd (Qn 15))]
def f71_c13:MC:=.reg false f71_r13
def f71_r14:List MO:=[Qa (Qv 16) (Qd (Qn 0)),Qa (Qv 17) (Qd (Qn 5)),Qa (Qv 18) (Qj 3 (Qn 16) (Qn 17)),Qa (Qv 19) (Qf 3 true (Qn 18)),Qa (Qv 20) (Qd (Qn 1)),Qa (Qv 21) (Qd (Qn 5)),Qa (Qv 22) (Qj 3 (Qn 20) (Qn 21)),Qa (Qv 23) (Qf 3 true (Qn 22)),Qa (Qv 24) (MOp.eqs true [Qt,Qt,Leaf.s] (Qn 19) (Qn 23))]
def f71_c14:MC:=.reg true f71_r14
def f71_r15:List MO:=[Qa (Qv 4) (Qd (Qo (Qp (Qq (Qs false)))))]
def f71_c15:MC:=.reg false f71_r15
def f71_c16:MC:=MC.ret
def f71_c17:MC:=.seq f71_c15 f71_c16
def f71_c18:MC:=MC.skip
def f71_c19:MC:=.cond (Qn 24) f71_c17 f71_c18
def f71_c20:MC:=.seq f71_c14 f71_c19
def f71_c21:MC:=.seq f71_c13 f71_c20
def f71_c22:MC:=.blk 1 f71_c21
def f71_r23:List MO:=[Qa (Qv 25) (Qe Qt Go.BinOp.add (Qn 13) (Qo (Qp (Qq (Qr Qu 1))))),Qa (Qv 13) (Qd (Qn 25))]
def f71_c23:MC:=.reg false f71_r23
def f71_c24:MC:=.seq f71_c22 f71_c23
def f71_c25:MC:=.seq f71_c12 f71_c24
def f71_c26:MC:=.seq f71_c9 f71_c25
def f71_c27:MC:=.loop f71_c26
def f71_c28:MC:=.blk 0 f71_c27
def f71_c29:MC:=.seq f71_c8 f71_c28
def f71_r30:List MO:=[Qa (Qv 4) (Qd (Qo (Qp (Qq (Qs true)))))]
def f71_c30:MC:=.reg false f71_r30
def f71_c31:MC:=MC.ret
def f71_c32:MC:=.seq f71_c30 f71_c31
def f71_c33:MC:=.seq f71_c29 f71_c32
def f71_c34:MC:=.seq f71_c7 f71_c33
def f71_c35:MC:=.seq f71_c0 f71_c34
attribute [go_sem] f71_r0 f71_r1 f71_r2 f71_r8 f71_r9 f71_r13 f71_r14 f71_r15 f71_r23 f71_r30
noncomputable def f71_code : Code := (f71.body).getD .skip
theorem f71_body : f71.body = Qv f71_code := by kernel_rfl
theorem f71_tr : trC QP [] f71_code = Qv f71_c35 := by kernel_rfl
theorem f71_rs : rsOf QP f71.results.toList = Qv [(RV.t 4)] := by kernel_rfl
theorem f71_nt : f71.ntmps = 26 := by kernel_rfl
theorem f71_ok : callable QP 71 = true := by kernel_rfl
theorem f71_in {gp : Heap} {args : List V} {res : V} (h : G ⟨QP,gp,0,[(RV.t 4)],fun r c => r = res /\ c = [],false⟩ [.code f71_c35,.fin] ⟨args ++ List.replicate (26 - args.length) .un,[]⟩) : Does QP gp 71 args res :=
 does_intro f71_ok func71 f71_body f71_tr f71_rs (by rw [f71_nt]; exact h)
def f72_r0:List MO:=[Qa (Qv 4) (Qd (Qo (Qp (Qq (Qs false)))))]
def f72_c0:MC:=.reg false f72_r0
def f72_r1:List MO:=[Qa (Qv 6) (Qd (Qn 0)),Qa (Qv 7) (Qk Qt (Qn 6)),Qa (Qv 8) (Qd (Qn 1)),Qa (Qv 9) (Qk Qt (Qn 8)),Qa (Qv 10) (Qe Qt Go.BinOp.neq (Qn 7) (Qn 9))]
def f72_c1:MC:=.reg false f72_r1
def f72_r2:List MO:=[Qa (Qv 4) (Qd (Qo (Qp (Qq (Qs false)))))]
def f72_c2:MC:=.reg false f72_r2
def f72_c3:MC:=MC.ret
def f72_c4:MC:=.seq f72_c2 f72_c3
def f72_c5:MC:=MC.skip
def f72_c6:MC:=.cond (Qn 10) f72_c4 f72_c5
def f72_c7:MC:=.seq f72_c1 f72_c6
def f72_r8:List MO:=[Qa (Qv 11) (Qd (Qn 0)),Qa (Qv 12) (Qk Qt (Qn 11)),Qa (Qv 13) (Qd (Qo (Qp (Qq (Qr Qu 0)))))]
def f72_c8:MC:=.reg false f72_r8
def f72_r9:List MO:=[Qa (Qv 14) (Qe Qt Go.BinOp.lss (Qn 13) (Qn 12))]
def f72_c9:MC:=.reg false f72_r9
def f72_c10:MC:=MC.skip
def f72_c11:MC:=(MC.exit 0)
def f72_c12:MC:=.cond (Qn 14) f72_c10 f72_c11
def f72_r13:List MO:=[Qa (Qv 15) (Qd (Qn 13)),Qa (Qv 5) (Qd (Qn 15))]
def f72_c13:MC:=.reg false f72_r13
def f72_r14:List MO:=[Qa (Qv 16) (Qd (Qn 0)),Qa (Qv 17) (Qd (Qn 5)),Qa (Qv 18) (Qj 1 (Qn 16) (Qn 17)),Qa (Qv 19) (Qf 1 false (Qn 18)),Qa (Qv 20) (Qd (Qn 1)),Qa (Qv 21) (Qd (Qn 5)),Qa (Qv 22) (Qj 1 (Qn 20) (Qn 21)),Qa (Qv 23) (Qf 1 false (Qn 22)),Qa (Qv 24) (Qe Qt Go.BinOp.neq (Qn 19) (Qn 23))]
def f72_c14:MC:=.reg true f72_r14
def f72_r15:List MO:=[Qa (Qv 4) (Qd (Qo (Qp (Qq (Qs false)))))]
def f72_c15:MC:=.reg false f72_r15
def f72_c16:MC:=MC.ret
def f72_c17:MC:=.seq f72_c15 f72_c16
def f72_c18:MC:=MC.skip
def f72_c19:MC:=.cond (Qn 24) f72_c17 f72_c18
def f72_c20:MC:=.seq f72_c14 f72_c19
def f72_c21:MC:=.seq f72_c13 f72_c20
def f72_c22:MC:=.blk 1 f72_c21
def f72_r23:List MO:=[Qa (Qv 25) (Qe Qt Go.BinOp.add (Qn 13) (Qo (Qp (Qq (Qr Qu 1))))),Qa (Qv 13) (Qd (Qn 25))]
def f72_c23:MC:=.reg false f72_r23
def f72_c24:MC:=.seq f72_c22 f72_c23
def f72_c25:MC:=.seq f72_c12 f72_c24
def f72_c26:MC:=.seq f72_c9 f72_c25
def f72_c27:MC:=.loop f72_c26
def f72_c28:MC:=.blk 0 f72_c27
def f72_c29:MC:=.seq f72_c8 f72_c28
def f72_r30:List MO:=[Qa (Qv 4) (Qd (Qo (Qp (Qq (Qs true)))))]
def f72_c30:MC:=.reg false f72_r30
def f72_c31:MC:=MC.ret
def f72_c32:MC:=.seq f72_c30 f72_c31
def f72_c33:MC:=.seq f72_c29 f72_c32
def f72_c34:MC:=.seq f72_c7 f72_c33
def f72_c35:MC:=.seq f72_c0 f72_c34
attribute [go_sem] f72_r0 f72_r1 f72_r2 f72_r8 f72_r9 f72_r13 f72_r14 f72_r15 f72_r23 f72_r30
noncomputable def f72_code : Code := (f72.body).getD .skip
theorem f72_body : f72.body = Qv f72_code := by kernel_rfl
theorem f72_tr : trC QP [] f72_code = Qv f72_c35 := by kernel_rfl
theorem f72_rs : rsOf QP f72.results.toList = Qv [(RV.t 4)] := by kernel_rfl
theorem f72_nt : f72.ntmps = 26 := by kernel_rfl
theorem f72_ok : callable QP 72 = true := by kernel_rfl
theorem f72_in {gp : Heap} {args : List V} {res : V} (h : G ⟨QP,gp,0,[(RV.t 4)],fun r c => r = res /\ c = [],false⟩ [.code f72_c35,.fin] ⟨args ++ List.replicate (26 - args.length) .un,[]⟩) : Does QP gp 72 args res :=
 does_intro f72_ok func72 f72_body f72_tr f72_rs (by rw [f72_nt]; exact h)
def f73_r0:List MO:=[Qa (Qv 6) (Qd (Qo (Qp (Qq (Qs false)))))]
def f73_c0:MC:=.reg false f73_r0
def f73_r1:List MO:=[Qa (Qv 10) (Qd (Qn 0)),Qa (Qv 11) (Qk Qt (Qn 10)),Qa (Qv 12) (Qd (Qn 1)),Qa (Qv 13) (Qk Qt (Qn 12)),Qa (Qv 14) (Qe Qt Go.BinOp.neq (Qn 11) (Qn 13))]
def f73_c1:MC:=.reg false f73_r1
def f73_r2:List MO:=[Qa (Qv 6) (Qd (Qo (Qp (Qq (Qs false)))))]
def f73_c2:MC:=.reg false f73_r2
def f73_c3:MC:=MC.ret
def f73_c4:MC:=.seq f73_c2 f73_c3
def f73_c5:MC:=MC.skip
def f73_c6:MC:=.cond (Qn 14) f73_c4 f73_c5
def f73_c7:MC:=.seq f73_c1 f73_c6
def f73_r8:List MO:=[Qa (Qv 15) (Qd (Qn 0)),Qa (Qv 16) (Qk Qt (Qn 15)),Qa (Qv 17) (Qd (Qo (Qp (Qq (Qr Qu 0)))))]
def f73_c8:MC:=.reg false f73_r8
def f73_r9:List MO:=[Qa (Qv 18) (Qe Qt Go.BinOp.lss (Qn 17) (Qn 16))]
def f73_c9:MC:=.reg false f73_r9
def f73_c10:MC:=MC.skip
def f73_c11:MC:=(MC.exit 0)
def f73_c12:MC:=.cond (Qn 18) f73_c10 f73_c11
def f73_r13:List MO:=[Qa (Qv 19) (Qd (Qn 17)),Qa (Qv 20) (Qj 6 (Qn 15) (Qn 17)),Qa (Qv 21) (Qf 6 true (Qn 20)),Qa (Qv 8) (MOp.alloc [(Qr Qu 0),(Qr Qu 0),(Qr Qu 0),(D.str (ByteArray.mk #[])),(D.sl []),(D.sl [])]),Qa (Qv 7) (Qd (Qn 19)),Qa none (Ql 6 (Qn 8) (Qn 21))]
def f73_c13:MC:=.reg false f73_r13
def f73_r14:List MO:=[Qa (Qv 22) (Qd (Qn 1)),Qa (Qv 23) (Qd (Qn 7)),Qa (Qv 24) (Qj 6 (Qn 22) (Qn 23)),Qa (Qv 25) (Qf 6 true (Qn 24)),Qa (Qv 9) (MOp.alloc [(Qr Qu 0),(Qr Qu 0),(Qr Qu 0),(D.str (ByteArray.mk #[])),(D.sl []),(D.sl [])]),Qa none (Ql 6 (Qn 9) (Qn 25))]
def f73_c14:MC:=.reg false f73_r14
def f73_r15:List MO:=[Qa (Qv 26) (Qd (Qn 2)),Qa (Qv 27) (Qf 6 true (Qn 8)),Qa (Qv 28) (Qf 6 true (Qn 9)),Qa (Qv 29) (MOp.callv (Qn 26) [(Qn 27),(Qn 28)]),Qa (Qv 30) (MOp.not (Qn 29))]
def f73_c15:MC:=.reg false f73_r15
def f73_r16:List MO:=[Qa (Qv 6) (Qd (Qo (Qp (Qq (Qs false)))))]
def f73_c16:MC:=.reg false f73_r16
def f73_c17:MC:=MC.ret
def f73_c18:MC:=.seq f73_c16 f73_c17
def f73_c19:MC:=MC.skip
def f73_c20:MC:=.cond (Qn 30) f73_c18 f73_c19
def f73_c21:MC:=.seq f73_c15 f73_c20
def f73_c22:MC:=.seq f73_c14 f73_c21
def f73_c23:MC:=.seq f73_c13 f73_c22
def f73_c24:MC:=.blk 1 f73_c23
def f73_r25:List MO:=[Qa (Qv 31) (Qe Qt Go.BinOp.add (Qn 17) (Qo (Qp (Qq (Qr Qu 1))))),Qa (Qv 17) (Qd (Qn 31))]
def f73_c25:MC:=.reg false f73_r25
def f73_c26:MC:=.seq f73_c24 f73_c25
def f73_c27:MC:=.seq f73_c12 f73_c26
def f73_c28:MC:=.seq f73_c9 f73_c27
def f73_c29:MC:=.loop f73_c28
def f73_c30:MC:=.blk 0 f73_c29
def f73_c31:MC:=.seq f73_c8 f73_c30
def f73_r32:List MO:=[Qa (Qv 6) (Qd (Qo (Qp (Qq (Qs true)))))]
def f73_c32:MC:=.reg false f73_r32
def f73_c33:MC:=MC.ret
def f73_c34:MC:=.seq f73_c32 f73_c33
def f73_c35:MC:=.seq f73_c31 f73_c34
def f73_c36:MC:=.seq f73_c7 f73_c35
def f73_c37:MC:=.seq f73_c0 f73_c36
attribute [go_sem] f73_r0 f73_r1 f73_r2 f73_r8 f73_r9 f73_r13 f73_r14 f73_r15 f73_r16 f73_r25 f73_r32
noncomputable def f73_code : Code := (f73.body).getD .skip
theorem f73_body : f73.body = Qv f73_code := by kernel_rfl
theorem f73_tr : trC QP [] f73_code = Qv f73_c37 := by kernel_rfl
theorem f73_rs : rsOf QP f73.results.toList = Qv [(RV.t 6)] := by kernel_rfl
theorem f73_nt : f73.ntmps = 32 := by kernel_rfl
theorem f73_ok : callable QP 73 = true := by kernel_rfl
theorem f73_in {gp : Heap} {args : List V} {res : V} (h : G ⟨QP,gp,0,[(RV.t 6)],fun r c => r = res /\ c = [],false⟩ [.code f73_c37,.fin] ⟨args ++ List.replicate (32 - args.length) .un,[]⟩) : Does QP gp 73 args res :=
 does_intro f73_ok func73 f73_body f73_tr f73_rs (by rw [f73_nt]; exact h)
def f74_r0:List MO:=[Qa (Qv 2) (MOp.ibox (Qn 0)),Qa (Qv 4) (Qd (Qo (Qp A.nil))),Qa (Qv 5) (Qd (Qo (Qp (Qq (Qr Qu 0)))))]
def f74_c0:MC:=.reg false f74_r0
def f74_r1:List MO:=[Qa (Qv 12) (Qf 2 true (Qn 2)),Qa (Qv 13) (Qd (Qn 1)),Qa (Qv 14) (Qh 54 [(Qn 12),(Qn 13)]),Qa (Qv 11) (Qd (Qn 14)),Qa (Qv 15) (Qi (Qn 11) 0),Qa (Qv 16) (Qi (Qn 11) 1),Qa (Qv 6) (MOp.alloc [(Qr Qu 0),(Qr Qu 0),(Qr Qu 0),(D.str (ByteArray.mk #[])),(D.sl []),(D.sl []),(Qr Qu 0)]),Qa none (Ql 7 (Qn 6) (Qn 15)),Qa (Qv 7) (Qd (Qn 16))]
def f74_c1:MC:=.reg false f74_r1
def f74_r2:List MO:=[Qa (Qv 8) (Qd (Qo (Qp A.nil)))]
def f74_c2:MC:=.reg false f74_r2
def f74_r3:List MO:=[Qa (Qv 17) (Qf 7 true (Qn 6)),Qa (Qv 18) (Qh 55 [(Qn 17)]),Qa (Qv 19) (Qk Qt (Qn 18)),Qa (Qv 20) (Qd (Qo (Qp (Qq (Qr Qu 0)))))]
def f74_c3:MC:=.reg false f74_r3
def f74_r4:List MO:=[Qa (Qv 21) (Qe Qt Go.BinOp.lss (Qn 20) (Qn 19))]
def f74_c4:MC:=.reg false f74_r4
def f74_c5:MC:=MC.skip
def f74_c6:MC:=(MC.exit 0)
def f74_c7:MC:=.cond (Qn 21) f74_c5 f74_c6
def f74_r8:List MO:=[Qa (Qv 22) (Qj 4 (Qn 18) (Qn 20)),Qa (Qv 23) (Qf 4 true (Qn 22)),Qa (Qv 10) (MOp.alloc [(Qr Qu 0),(Qr Qu 0),(D.str (ByteArray.mk #[])),(Qr Qu 0)]),Qa none (Ql 4 (Qn 10) (Qn 23))]
def f74_c8:MC:=.reg false f74_r8
def f74_r9:List MO:=[Qa (Qv 24) (Qd (Qn 8)),Qa (Qv 25) (Qg 0 (Qn 10)),Qa (Qv 26) (Qf 3 true (Qn 25)),Qa (Qv 27) (MOp.bslice 3 [(Qr Qu 0),(Qr Qu 0),(D.str (ByteArray.mk #[]))] 1 [(0,(Qn 26))]),Qa (Qv 28) (MOp.app 41 3 32 (Qn 24) (Qn 27)),Qa (Qv 8) (Qd (Qn 28))]
def f74_c9:MC:=.reg false f74_r9
def f74_c10:MC:=.seq f74_c8 f74_c9
def f74_c11:MC:=.blk 1 f74_c10
def f74_r12:List MO:=[Qa (Qv 29) (Qe Qt Go.BinOp.add (Qn 20) (Qo (Qp (Qq (Qr Qu 1))))),Qa (Qv 20) (Qd (Qn 29))]
def f74_c12:MC:=.reg false f74_r12
def f74_c13:MC:=.seq f74_c11 f74_c12
def f74_c14:MC:=.seq f74_c7 f74_c13
def f74_c15:MC:=.seq f74_c4 f74_c14
def f74_c16:MC:=.loop f74_c15
def f74_c17:MC:=.blk 0 f74_c16
def f74_c18:MC:=.seq f74_c3 f74_c17
def f74_r19:List MO:=[Qa (Qv 30) (Qd (Qn 8)),Qa (Qv 31) (Qd (Qn 7)),Qa (Qv 4) (Qd (Qn 30)),Qa (Qv 5) (Qd (Qn 31))]
def f74_c19:MC:=.reg false f74_r19
def f74_c20:MC:=MC.ret
def f74_c21:MC:=.seq f74_c19 f74_c20
def f74_c22:MC:=.seq f74_c18 f74_c21
def f74_c23:MC:=.seq f74_c2 f74_c22
def f74_c24:MC:=.seq f74_c1 f74_c23
def f74_c25:MC:=.seq f74_c0 f74_c24
noncomputable def f74_code : Code := (f74.body).getD .skip
theorem f74_body : f74.body = Qv f74_code := by kernel_rfl
theorem f74_tr : trC QP [2] f74_code = Qv f74_c25 := by kernel_rfl
theorem f74_rs : rsOf QP f74.results.toList = Qv [(RV.t 4),(RV.t 5)] := by kernel_rfl
theorem f74_nt : f74.ntmps = 32 := by kernel_rfl
theorem f74_ok : callable QP 74 = true := by kernel_rfl
theorem f74_in {gp : Heap} {args : List V} {res : V} (h : G ⟨QP,gp,0,[(RV.t 4),(RV.t 5)],fun r c => r = res /\ c = [],false⟩ [.code f74_c25,.fin] ⟨args ++ List.replicate (32 - args.length) .un,[]⟩) : Does QP gp 74 args res :=
 does_intro f74_ok func74 f74_body f74_tr f74_rs (by rw [f74_nt]; exact h)
def f78_r0:List MO:=[Qa (Qv 1) (MOp.ibox (Qn 0)),Qa (Qv 2) (MOp.alloc [(Qr Qu 0),(Qr Qu 0),(D.str (ByteArray.mk #[]))])]
def f78_c0:MC:=.reg false f78_r0
def f78_r1:List MO:=[Qa (Qv 3) (Qg 0 (Qn 1)),Qa (Qv 4) (Qf 1 false (Qn 3)),Qa (Qv 5) (Qg 1 (Qn 1)),Qa (Qv 6) (Qf 1 false (Qn 5)),Qa (Qv 7) (Qg 2 (Qn 1)),Qa (Qv 8) (Qf 1 false (Qn 7)),Qa (Qv 9) (Qh 100 [(Qn 8)]),Qa (Qv 10) (MOp.build [(Qr Qu 0),(Qr Qu 0),(D.str (ByteArray.mk #[]))] [(0,(1,(Qn 4))),(1,(1,(Qn 6))),(2,(1,(Qn 9)))]),Qa none (Ql 3 (Qn 2) (Qn 10))]
def f78_c1:MC:=.reg true f78_r1
def f78_c2:MC:=MC.ret
def f78_c3:MC:=.seq f78_c1 f78_c2
def f78_c4:MC:=.seq f78_c0 f78_c3
attribute [go_sem] f78_r0 f78_r1
noncomputable def f78_code : Code := (f78.body).getD .skip
theorem f78_body : f78.body = Qv f78_code := by kernel_rfl
theorem f78_tr : trC QP [1] f78_code = Qv f78_c4 := by kernel_rfl
theorem f78_rs : rsOf QP f78.results.toList = Qv [(RV.cell 2 3 true)] := by kernel_rfl
theorem f78_nt : f78.ntmps = 11 := by kernel_rfl
theorem f78_ok : callable QP 78 = true := by kernel_rfl
theorem f78_in {gp : Heap} {args : List V} {res : V} (h : G ⟨QP,gp,0,[(RV.cell 2 3 true)],fun r c => r = res /\ c = [],false⟩ [.code f78_c4,.fin] ⟨args ++ List.replicate (11 - args.length) .un,[]⟩) : Does QP gp 78 args res :=
 does_intro f78_ok func78 f78_body f78_tr f78_rs (by rw [f78_nt]; exact h)
def f86_r0:List MO:=[Qa (Qv 2) (MOp.ibox (Qn 0)),Qa (Qv 4) (Qd (Qo (Qp (Qq (Qs false)))))]
def f86_c0:MC:=.reg false f86_r0
def f86_r1:List MO:=[Qa (Qv 5) (Qd (Qn 1)),Qa (Qv 6) (Qe Qt Go.BinOp.geq (Qn 5) (Qo (Qp (Qq (Qr Qu 0))))),Qa (Qv 7) (Qd (Qn 6)),Qb 7 true (Qv 8),Qa (Qv 8) (Qd (Qn 1)),Qb 7 true (Qv 9),Qa (Qv 9) (Qg 1 (Qn 2)),Qb 7 true (Qv 10),Qa (Qv 10) (Qf 1 false (Qn 9)),Qb 7 true (Qv 11),Qa (Qv 11) (Qk Qt (Qn 10)),Qb 7 true (Qv 12),Qa (Qv 12) (Qe Qt Go.BinOp.lss (Qn 8) (Qn 11)),Qa (Qv 13) (Qm (Qn 7) (Qn 12) (Qo (Qp (Qq (Qs false))))),Qa (Qv 4) (Qd (Qn 13))]
def f86_c1:MC:=.reg false f86_r1
def f86_c2:MC:=MC.ret
def f86_c3:MC:=.seq f86_c1 f86_c2
def f86_c4:MC:=.seq f86_c0 f86_c3
attribute [go_sem] f86_r0 f86_r1
noncomputable def f86_code : Code := (f86.body).getD .skip
theorem f86_body : f86.body = Qv f86_code := by kernel_rfl
theorem f86_tr : trC QP [2] f86_code = Qv f86_c4 := by kernel_rfl
theorem f86_rs : rsOf QP f86.results.toList = Qv [(RV.t 4)] := by kernel_rfl
theorem f86_nt : f86.ntmps = 14 := by kernel_rfl
theorem f86_ok : callable QP 86 = true := by kernel_rfl
theorem f86_in {gp : Heap} {args : List V} {res : V} (h : G ⟨QP,gp,0,[(RV.t 4)],fun r c => r = res /\ c = [],false⟩ [.code f86_c4,.fin] ⟨args ++ List.replicate (14 - args.length) .un,[]⟩) : Does QP gp 86 args res :=
 does_intro f86_ok func86 f86_body f86_tr f86_rs (by rw [f86_nt]; exact h)
def f87_r0:List MO:=[Qa (Qv 1) (MOp.ibox (Qn 0)),Qa (Qv 2) (Qd (Qo (Qp (Qq (Qs false)))))]
def f87_c0:MC:=.reg false f87_r0
def f87_r1:List MO:=[Qa (Qv 3) (Qg 0 (Qn 1)),Qa (Qv 4) (Qg 4 (Qn 3)),Qa (Qv 5) (Qf 1 false (Qn 4)),Qa (Qv 6) (Qk Qt (Qn 5)),Qa (Qv 7) (Qg 0 (Qn 1)),Qa (Qv 8) (Qg 5 (Qn 7)),Qa (Qv 9) (Qf 1 false (Qn 8)),Qa (Qv 10) (Qk Qt (Qn 9)),Qa (Qv 11) (Qe Qt Go.BinOp.eql (Qn 6) (Qn 10)),Qa (Qv 2) (Qd (Qn 11))]
def f87_c1:MC:=.reg false f87_r1
def f87_c2:MC:=MC.ret
def f87_c3:MC:=.seq f87_c1 f87_c2
def f87_c4:MC:=.seq f87_c0 f87_c3
attribute [go_sem] f87_r0 f87_r1
noncomputable def f87_code : Code := (f87.body).getD .skip
theorem f87_body : f87.body = Qv f87_code := by kernel_rfl
theorem f87_tr : trC QP [1] f87_code = Qv f87_c4 := by kernel_rfl
theorem f87_rs : rsOf QP f87.results.toList = Qv [(RV.t 2)] := by kernel_rfl
theorem f87_nt : f87.ntmps = 12 := by kernel_rfl
theorem f87_ok : callable QP 87 = true := by kernel_rfl
theorem f87_in {gp : Heap} {args : List V} {res : V} (h : G ⟨QP,gp,0,[(RV.t 2)],fun r c => r = res /\ c = [],false⟩ [.code f87_c4,.fin] ⟨args ++ List.replicate (12 - args.length) .un,[]⟩) : Does QP gp 87 args res :=
 does_intro f87_ok func87 f87_body f87_tr f87_rs (by rw [f87_nt]; exact h)
def f88_r0:List MO:=[Qa (Qv 4) (Qd (Qn 0)),Qa (Qv 5) (Qd (Qn 0)),Qa (Qv 6) (Qk Qt (Qn 5)),Qa (Qv 7) (Qd (Qn 1)),Qa (Qv 8) (Qh 109 [(Qn 4),(Qn 6),(Qn 7)])]
def f88_c0:MC:=.reg false f88_r0
attribute [go_sem] f88_r0
noncomputable def f88_code : Code := (f88.body).getD .skip
theorem f88_body : f88.body = Qv f88_code := by kernel_rfl
theorem f88_tr : trC QP [] f88_code = Qv f88_c0 := by kernel_rfl
theorem f88_rs : rsOf QP f88.results.toList = Qv [] := by kernel_rfl
theorem f88_nt : f88.ntmps = 9 := by kernel_rfl
theorem f88_ok : callable QP 88 = true := by kernel_rfl
theorem f88_tri {gp : Heap} {args : List V} {pre : List Ch} {R : V -> List Ch -> Prop} (h : G ⟨QP,gp,pre.length,[],R,false⟩ [.code f88_c0,.fin] ⟨args ++ List.replicate (9 - args.length) .un,pre⟩) : Tri QP gp 88 args pre R :=
 tri_intro func88 f88_body f88_tr f88_rs (by rw [f88_nt]; exact h)
def f89_r0:List MO:=[Qa (Qv 2) (MOp.ibox (Qn 0)),Qa (Qv 3) (MOp.ibox (Qn 1)),Qa (Qv 4) (Qd (Qo (Qp (Qq (Qr Qu 0)))))]
def f89_c0:MC:=.reg false f89_r0
def f89_r1:List MO:=[Qa (Qv 5) (Qg 0 (Qn 2)),Qa (Qv 6) (Qf 3 true (Qn 5)),Qa (Qv 7) (Qg 0 (Qn 3)),Qa (Qv 8) (Qf 3 true (Qn 7)),Qa (Qv 9) (Qh 90 [(Qn 6),(Qn 8)]),Qa (Qv 4) (Qd (Qn 9))]
def f89_c1:MC:=.reg false f89_r1
def f89_c2:MC:=MC.ret
def f89_c3:MC:=.seq f89_c1 f89_c2
def f89_c4:MC:=.seq f89_c0 f89_c3
attribute [go_sem] f89_r0 f89_r1
noncomputable def f89_code : Code := (f89.body).getD .skip
theorem f89_body : f89.body = Qv f89_code := by kernel_rfl
theorem f89_tr : trC QP [2,3] f89_code = Qv f89_c4 := by kernel_rfl
theorem f89_rs : rsOf QP f89.results.toList = Qv [(RV.t 4)] := by kernel_rfl
theorem f89_nt : f89.ntmps = 10 := by kernel_rfl
theorem f89_ok : callable QP 89 = true := by kernel_rfl
theorem f89_in {gp : Heap} {args : List V} {res : V} (h : G ⟨QP,gp,0,[(RV.t 4)],fun r c => r = res /\ c = [],false⟩ [.code f89_c4,.fin] ⟨args ++ List.replicate (10 - args.length) .un,[]⟩) : Does QP gp 89 args res :=
 does_intro f89_ok func89 f89_body f89_tr f89_rs (by rw [f89_nt]; exact h)
def f90_r0:List MO:=[Qa (Qv 2) (MOp.ibox (Qn 0)),Qa (Qv 3) (MOp.ibox (Qn 1)),Qa (Qv 4) (Qd (Qo (Qp (Qq (Qr Qu 0)))))]
def f90_c0:MC:=.reg false f90_r0
def f90_r1:List MO:=[Qa (Qv 5) (Qf 3 true (Qn 2)),Qa (Qv 6) (Qf 3 true (Qn 3)),Qa (Qv 7) (MOp.eqs false [Qt,Qt,Leaf.s] (Qn 5) (Qn 6))]
def f90_c1:MC:=.reg false f90_r1
def f90_r2:List MO:=[Qa (Qv 4) (Qd (Qo (Qp (Qq (Qr Qu 0)))))]
def f90_c2:MC:=.reg false f90_r2
def f90_c3:MC:=MC.ret
def f90_c4:MC:=.seq f90_c2 f90_c3
def f90_c5:MC:=MC.skip
def f90_c6:MC:=.cond (Qn 7) f90_c4 f90_c5
def f90_c7:MC:=.seq f90_c1 f90_c6
def f90_r8:List MO:=[Qa (Qv 8) (Qg 0 (Qn 2)),Qa (Qv 9) (Qf 1 false (Qn 8)),Qa (Qv 10) (Qg 0 (Qn 3)),Qa (Qv 11) (Qf 1 false (Qn 10)),Qa (Qv 12) (Qh 111 [(Qn 9),(Qn 11)]),Qa (Qv 13) (Qg 1 (Qn 2)),Qa (Qv 14) (Qf 1 false (Qn 13)),Qa (Qv 15) (Qg 1 (Qn 3)),Qa (Qv 16) (Qf 1 false (Qn 15)),Qa (Qv 17) (Qh 111 [(Qn 14),(Qn 16)]),Qa (Qv 18) (Qg 2 (Qn 2)),Qa (Qv 19) (Qf 1 false (Qn 18)),Qa (Qv 20) (Qg 2 (Qn 3)),Qa (Qv 21) (Qf 1 false (Qn 20)),Qc (Qv 22) (Qh 112 [(Qn 19),(Qn 21)]),Qa (Qv 23) (MOp.bslice 1 [(Qr Qu 0)] 3 [(0,(Qn 12)),(1,(Qn 17)),(2,(Qn 22))]),Qc (Qv 24) (Qh 110 [(Qn 23)]),Qa (Qv 4) (Qd (Qn 24))]
def f90_c8:MC:=.reg true f90_r8
def f90_c9:MC:=MC.ret
def f90_c10:MC:=.seq f90_c8 f90_c9
def f90_c11:MC:=.seq f90_c7 f90_c10
def f90_c12:MC:=.seq f90_c0 f90_c11
attribute [go_sem] f90_r0 f90_r1 f90_r2 f90_r8
noncomputable def f90_code : Code := (f90.body).getD .skip
theorem f90_body : f90.body = Qv f90_code := by kernel_rfl
theorem f90_tr : trC QP [2,3] f90_code = Qv f90_c12 := by kernel_rfl
theorem f90_rs : rsOf QP f90.results.toList = Qv [(RV.t 4)] := by kernel_rfl
theorem f90_nt : f90.ntmps = 25 := by kernel_rfl
theorem f90_ok : callable QP 90 = true := by kernel_rfl
theorem f90_in {gp : Heap} {args : List V} {res : V} (h : G ⟨QP,gp,0,[(RV.t 4)],fun r c => r = res /\ c = [],false⟩ [.code f90_c12,.fin] ⟨args ++ List.replicate (25 - args.length) .un,[]⟩) : Does QP gp 90 args res :=
 does_intro f90_ok func90 f90_body f90_tr f90_rs (by rw [f90_nt]; exact h)
def f96_r0:List MO:=[Qa (Qv 1) (MOp.ibox (Qn 0)),Qa (Qv 2) (Qd (Qo (Qp (Qq D.nilF))))]
def f96_c0:MC:=.reg false f96_r0
def f96_r1:List MO:=[Qa (Qv 3) (MOp.mkF (Go.Fn.func 120) [(Qn 1)]),Qa (Qv 2) (Qd (Qn 3))]
def f96_c1:MC:=.reg false f96_r1
def f96_c2:MC:=MC.ret
def f96_c3:MC:=.seq f96_c1 f96_c2
def f96_c4:MC:=.seq f96_c0 f96_c3
attribute [go_sem] f96_r0 f96_r1
noncomputable def f96_code : Code := (f96.body).getD .skip
theorem f96_body : f96.body = Qv f96_code := by kernel_rfl
theorem f96_tr : trC QP [1] f96_code = Qv f96_c4 := by kernel_rfl
theorem f96_rs : rsOf QP f96.results.toList = Qv [(RV.t 2)] := by kernel_rfl
theorem f96_nt : f96.ntmps = 4 := by kernel_rfl
theorem f96_ok : callable QP 96 = true := by kernel_rfl
theorem f96_in {gp : Heap} {args : List V} {res : V} (h : G ⟨QP,gp,0,[(RV.t 2)],fun r c => r = res /\ c = [],false⟩ [.code f96_c4,.fin] ⟨args ++ List.replicate (4 - args.length) .un,[]⟩) : Does QP gp 96 args res :=
 does_intro f96_ok func96 f96_body f96_tr f96_rs (by rw [f96_nt]; exact h)
def f97_r0:List MO:=[Qa (Qv 1) (MOp.ibox (Qn 0)),Qa (Qv 2) (Qd (Qo (Qp (Qq (Qs false)))))]
def f97_c0:MC:=.reg false f97_r0
def f97_r1:List MO:=[Qa (Qv 4) (MOp.build [D.nilF,D.nilF,D.nilF] [(0,(1,(Qo (Qp (Qq (D.fn (Go.Fn.func 121) [])))))),(1,(1,(Qo (Qp (Qq (D.fn (Go.Fn.func 122) [])))))),(2,(1,(Qo (Qp (Qq (D.fn (Go.Fn.func 123) []))))))]),Qa (Qv 3) (MOp.alloc [D.nilF,D.nilF,D.nilF]),Qa none (Ql 3 (Qn 3) (Qn 4))]
def f97_c1:MC:=.reg false f97_r1
def f97_r2:List MO:=[Qa (Qv 5) (Qg 0 (Qn 1)),Qa (Qv 6) (Qg 0 (Qn 5)),Qa (Qv 7) (Qf 1 false (Qn 6)),Qa (Qv 8) (Qe Qt Go.BinOp.geq (Qn 7) (Qo (Qp (Qq (Qr Qu 0))))),Qa (Qv 9) (Qd (Qn 8)),Qb 9 true (Qv 10),Qa (Qv 10) (Qg 0 (Qn 1)),Qb 9 true (Qv 11),Qa (Qv 11) (Qg 0 (Qn 10)),Qb 9 true (Qv 12),Qa (Qv 12) (Qf 1 false (Qn 11)),Qb 9 true (Qv 13),Qa (Qv 13) (Qe Qt Go.BinOp.lss (Qn 12) (Qo (Qp (Qq (Qr Qu 3))))),Qa (Qv 14) (Qm (Qn 9) (Qn 13) (Qo (Qp (Qq (Qs false))))),Qa (Qv 15) (Qd (Qn 14)),Qb 15 true (Qv 16),Qa (Qv 16) (Qg 0 (Qn 1)),Qb 15 true (Qv 17),Qa (Qv 17) (Qg 0 (Qn 16)),Qb 15 true (Qv 18),Qa (Qv 18) (Qf 1 false (Qn 17)),Qb 15 true (Qv 19),Qa (Qv 19) (MOp.iadA 3 1 (Qn 3) (Qn 18)),Qb 15 true (Qv 20),Qa (Qv 20) (Qf 1 false (Qn 19)),Qb 15 true (Qv 21),Qa (Qv 21) (Qf 7 true (Qn 1)),Qb 15 true (Qv 22),Qc (Qv 22) (MOp.callv (Qn 20) [(Qn 21)]),Qa (Qv 23) (Qm (Qn 15) (Qn 22) (Qo (Qp (Qq (Qs false))))),Qa (Qv 2) (Qd (Qn 23))]
def f97_c2:MC:=.reg true f97_r2
def f97_c3:MC:=MC.ret
def f97_c4:MC:=.seq f97_c2 f97_c3
def f97_c5:MC:=.seq f97_c1 f97_c4
def f97_c6:MC:=.seq f97_c0 f97_c5
attribute [go_sem] f97_r0 f97_r1 f97_r2
noncomputable def f97_code : Code := (f97.body).getD .skip
theorem f97_body : f97.body = Qv f97_code := by kernel_rfl
theorem f97_tr : trC QP [1] f97_code = Qv f97_c6 := by kernel_rfl
theorem f97_rs : rsOf QP f97.results.toList = Qv [(RV.t 2)] := by kernel_rfl
theorem f97_nt : f97.ntmps = 24 := by kernel_rfl
theorem f97_ok : callable QP 97 = true := by kernel_rfl
theorem f97_in {gp : Heap} {args : List V} {res : V} (h : G ⟨QP,gp,0,[(RV.t 2)],fun r c => r = res /\ c = [],false⟩ [.code f97_c6,.fin] ⟨args ++ List.replicate (24 - args.length) .un,[]⟩) : Does QP gp 97 args res :=
 does_intro f97_ok func97 f97_body f97_tr f97_rs (by rw [f97_nt]; exact h)
def f100_r0:List MO:=[Qa (Qv 2) (Qd (Qo (Qp (Qq (D.str (ByteArray.mk #[]))))))]
def f100_c0:MC:=.reg false f100_r0
def f100_r1:List MO:=[Qa (Qv 3) (Qd (Qn 0)),Qa (Qv 4) (Qd (Qn 0)),Qa (Qv 5) (Qk Leaf.s (Qn 4)),Qa (Qv 6) (MOp.min (Qn 5) (Qo (Qp (Qq (Qr Qu 100))))),Qa (Qv 7) (MOp.slcS (Qn 3) none (Qv (Qn 6))),Qa (Qv 2) (Qd (Qn 7))]
def f100_c1:MC:=.reg false f100_r1
def f100_c2:MC:=MC.ret
def f100_c3:MC:=.seq f100_c1 f100_c2
def f100_c4:MC:=.seq f100_c0 f100_c3
attribute [go_sem] f100_r0 f100_r1
noncomputable def f100_code : Code := (f100.body).getD .skip
theorem f100_body : f100.body = Qv f100_code := by kernel_rfl
theorem f100_tr : trC QP [] f100_code = Qv f100_c4 := by kernel_rfl
theorem f100_rs : rsOf QP f100.results.toList = Qv [(RV.t 2)] := by kernel_rfl
theorem f100_nt : f100.ntmps = 8 := by kernel_rfl
theorem f100_ok : callable QP 100 = true := by kernel_rfl
theorem f100_in {gp : Heap} {args : List V} {res : V} (h : G ⟨QP,gp,0,[(RV.t 2)],fun r c => r = res /\ c = [],false⟩ [.code f100_c4,.fin] ⟨args ++ List.replicate (8 - args.length) .un,[]⟩) : Does QP gp 100 args res :=
 does_intro f100_ok func100 f100_body f100_tr f100_rs (by rw [f100_nt]; exact h)
def f109_r0:List MO:=[Qa (Qv 6) (Qd (Qo (Qp (Qq (Qr Qu 20)))))]
def f109_c0:MC:=.reg false f109_r0
def f109_r1:List MO:=[Qa (Qv 10) (Qd (Qn 6)),Qa (Qv 7) (Qd (Qo (Qp (Qq (Qr Qu 0))))),Qa (Qv 8) (Qd (Qn 10))]
def f109_c1:MC:=.reg false f109_r1
def f109_r2:List MO:=[Qa (Qv 11) (Qd (Qn 8)),Qa (Qv 12) (Qd (Qn 1)),Qa (Qv 13) (Qe Qt Go.BinOp.leq (Qn 11) (Qn 12))]
def f109_c2:MC:=.reg false f109_r2
def f109_c3:MC:=MC.skip
def f109_c4:MC:=(MC.exit 0)
def f109_c5:MC:=.cond (Qn 13) f109_c3 f109_c4
def f109_c6:MC:=.seq f109_c2 f109_c5
def f109_r7:List MO:=[Qa (Qv 14) (Qd (Qn 0)),Qa (Qv 15) (Qd (Qn 7)),Qa (Qv 16) (Qd (Qn 8)),Qa (Qv 17) (Qd (Qn 2)),Qa (Qv 18) (Qh 138 [(Qn 14),(Qn 15),(Qn 16),(Qn 17)])]
def f109_c7:MC:=.reg false f109_r7
def f109_r8:List MO:=[Qa (Qv 19) (Qd (Qn 8)),Qa (Qv 7) (Qd (Qn 19))]
def f109_c8:MC:=.reg false f109_r8
def f109_r9:List MO:=[Qa (Qv 20) (Qd (Qn 8)),Qa (Qv 21) (Qd (Qn 6)),Qa (Qv 22) (Qe Qt Go.BinOp.add (Qn 20) (Qn 21)),Qa (Qv 8) (Qd (Qn 22))]
def f109_c9:MC:=.reg false f109_r9
def f109_c10:MC:=.seq f109_c8 f109_c9
def f109_c11:MC:=.seq f109_c7 f109_c10
def f109_c12:MC:=.blk 1 f109_c11
def f109_c13:MC:=.seq f109_c6 f109_c12
def f109_c14:MC:=.loop f109_c13
def f109_c15:MC:=.blk 0 f109_c14
def f109_r16:List MO:=[Qa (Qv 23) (Qd (Qn 0)),Qa (Qv 24) (Qd (Qn 7)),Qa (Qv 25) (Qd (Qn 1)),Qa (Qv 26) (Qd (Qn 2)),Qa (Qv 27) (Qh 138 [(Qn 23),(Qn 24),(Qn 25),(Qn 26)])]
def f109_c16:MC:=.reg false f109_r16
def f109_r17:List MO:=[Qa (Qv 28) (Qd (Qn 6)),Qa (Qv 29) (Qd (Qn 1)),Qa (Qv 30) (Qe Qt Go.BinOp.lss (Qn 28) (Qn 29))]
def f109_c17:MC:=.reg false f109_r17
def f109_c18:MC:=MC.skip
def f109_c19:MC:=(MC.exit 2)
def f109_c20:MC:=.cond (Qn 30) f109_c18 f109_c19
def f109_c21:MC:=.seq f109_c17 f109_c20
def f109_r22:List MO:=[Qa (Qv 31) (Qd (Qn 6)),Qa (Qv 32) (Qe Qt Go.BinOp.mul (Qo (Qp (Qq (Qr Qu 2)))) (Qn 31)),Qa (Qv 7) (Qd (Qo (Qp (Qq (Qr Qu 0))))),Qa (Qv 8) (Qd (Qn 32))]
def f109_c22:MC:=.reg false f109_r22
def f109_r23:List MO:=[Qa (Qv 33) (Qd (Qn 8)),Qa (Qv 34) (Qd (Qn 1)),Qa (Qv 35) (Qe Qt Go.BinOp.leq (Qn 33) (Qn 34))]
def f109_c23:MC:=.reg false f109_r23
def f109_c24:MC:=MC.skip
def f109_c25:MC:=(MC.exit 4)
def f109_c26:MC:=.cond (Qn 35) f109_c24 f109_c25
def f109_c27:MC:=.seq f109_c23 f109_c26
def f109_r28:List MO:=[Qa (Qv 36) (Qd (Qn 0)),Qa (Qv 37) (Qd (Qn 7)),Qa (Qv 38) (Qd (Qn 7)),Qa (Qv 39) (Qd (Qn 6)),Qa (Qv 40) (Qe Qt Go.BinOp.add (Qn 38) (Qn 39)),Qa (Qv 41) (Qd (Qn 8)),Qa (Qv 42) (Qd (Qn 2)),Qa (Qv 43) (Qh 139 [(Qn 36),(Qn 37),(Qn 40),(Qn 41),(Qn 42)])]
def f109_c28:MC:=.reg false f109_r28
def f109_r29:List MO:=[Qa (Qv 44) (Qd (Qn 8)),Qa (Qv 7) (Qd (Qn 44))]
def f109_c29:MC:=.reg false f109_r29
def f109_r30:List MO:=[Qa (Qv 45) (Qd (Qn 8)),Qa (Qv 46) (Qd (Qn 6)),Qa (Qv 47) (Qe Qt Go.BinOp.mul (Qo (Qp (Qq (Qr Qu 2)))) (Qn 46)),Qa (Qv 48) (Qe Qt Go.BinOp.add (Qn 45) (Qn 47)),Qa (Qv 8) (Qd (Qn 48))]
def f109_c30:MC:=.reg false f109_r30
def f109_c31:MC:=.seq f109_c29 f109_c30
def f109_c32:MC:=.seq f109_c28 f109_c31
def f109_c33:MC:=.blk 5 f109_c32
def f109_c34:MC:=.seq f109_c27 f109_c33
def f109_c35:MC:=.loop f109_c34
def f109_c36:MC:=.blk 4 f109_c35
def f109_r37:List MO:=[Qa (Qv 49) (Qd (Qn 7)),Qa (Qv 50) (Qd (Qn 6)),Qa (Qv 51) (Qe Qt Go.BinOp.add (Qn 49) (Qn 50)),Qa (Qv 9) (Qd (Qn 51))]
def f109_c37:MC:=.reg false f109_r37
def f109_r38:List MO:=[Qa (Qv 52) (Qd (Qn 9)),Qa (Qv 53) (Qd (Qn 1)),Qa (Qv 54) (Qe Qt Go.BinOp.lss (Qn 52) (Qn 53))]
def f109_c38:MC:=.reg false f109_r38
def f109_r39:List MO:=[Qa (Qv 55) (Qd (Qn 0)),Qa (Qv 56) (Qd (Qn 7)),Qa (Qv 57) (Qd (Qn 9)),Qa (Qv 58) (Qd (Qn 1)),Qa (Qv 59) (Qd (Qn 2)),Qa (Qv 60) (Qh 139 [(Qn 55),(Qn 56),(Qn 57),(Qn 58),(Qn 59)])]
def f109_c39:MC:=.reg false f109_r39
def f109_c40:MC:=MC.skip
def f109_c41:MC:=.cond (Qn 54) f109_c39 f109_c40
def f109_c42:MC:=.seq f109_c38 f109_c41
def f109_c43:MC:=.seq f109_c37 f109_c42
def f109_r44:List MO:=[Qa (Qv 61) (Qd (Qn 6)),Qa (Qv 62) (Qe Qt Go.BinOp.mul (Qn 61) (Qo (Qp (Qq (Qr Qu 2))))),Qa (Qv 6) (Qd (Qn 62))]
def f109_c44:MC:=.reg false f109_r44
def f109_c45:MC:=.seq f109_c43 f109_c44
def f109_c46:MC:=.seq f109_c36 f109_c45
def f109_c47:MC:=.seq f109_c22 f109_c46
def f109_c48:MC:=.blk 3 f109_c47
def f109_c49:MC:=.seq f109_c21 f109_c48
def f109_c50:MC:=.loop f109_c49
def f109_c51:MC:=.blk 2 f109_c50
def f109_c52:MC:=.seq f109_c16 f109_c51
def f109_c53:MC:=.seq f109_c15 f109_c52
def f109_c54:MC:=.seq f109_c1 f109_c53
def f109_c55:MC:=.seq f109_c0 f109_c54
attribute [go_sem] f109_r0 f109_r1 f109_r2 f109_r7 f109_r8 f109_r9 f109_r16 f109_r17 f109_r22 f109_r23 f109_r28 f109_r29 f109_r30 f109_r37 f109_r38 f109_r39 f109_r44
noncomputable def f109_code : Code := (f109.body).getD .skip
theorem f109_body : f109.body = Qv f109_code := by kernel_rfl
theorem f109_tr : trC QP [] f109_code = Qv f109_c55 := by kernel_rfl
theorem f109_rs : rsOf QP f109.results.toList = Qv [] := by kernel_rfl
theorem f109_nt : f109.ntmps = 63 := by kernel_rfl
theorem f109_ok : callable QP 109 = true := by kernel_rfl
theorem f109_tri {gp : Heap} {args : List V} {pre : List Ch} {R : V -> List Ch -> Prop} (h : G ⟨QP,gp,pre.length,[],R,false⟩ [.code f109_c55,.fin] ⟨args ++ List.replicate (63 - args.length) .un,pre⟩) : Tri QP gp 109 args pre R :=
 tri_intro func109 f109_body f109_tr f109_rs (by rw [f109_nt]; exact h)
def f110_r0:List MO:=[Qa (Qv 2) (Qd (Qo (Qp (Qq (Qr Qu 0)))))]
def f110_c0:MC:=.reg false f110_r0
def f110_r1:List MO:=[Qa (Qv 3) (Qd (Qo (Qp (Qq (Qr Qu 0)))))]
def f110_c1:MC:=.reg false f110_r1
def f110_r2:List MO:=[Qa (Qv 6) (Qd (Qn 0)),Qa (Qv 7) (Qk Qt (Qn 6)),Qa (Qv 8) (Qd (Qo (Qp (Qq (Qr Qu 0)))))]
def f110_c2:MC:=.reg false f110_r2
def f110_r3:List MO:=[Qa (Qv 9) (Qe Qt Go.BinOp.lss (Qn 8) (Qn 7))]
def f110_c3:MC:=.reg false f110_r3
def f110_c4:MC:=MC.skip
def f110_c5:MC:=(MC.exit 0)
def f110_c6:MC:=.cond (Qn 9) f110_c4 f110_c5
def f110_r7:List MO:=[Qa (Qv 10) (Qj 1 (Qn 6) (Qn 8)),Qa (Qv 11) (Qf 1 false (Qn 10)),Qa (Qv 5) (Qd (Qn 11))]
def f110_c7:MC:=.reg false f110_r7
def f110_r8:List MO:=[Qa (Qv 12) (Qd (Qn 5)),Qa (Qv 13) (Qd (Qn 3)),Qa (Qv 14) (Qe Qt Go.BinOp.neq (Qn 12) (Qn 13))]
def f110_c8:MC:=.reg false f110_r8
def f110_r9:List MO:=[Qa (Qv 15) (Qd (Qn 5)),Qa (Qv 2) (Qd (Qn 15))]
def f110_c9:MC:=.reg false f110_r9
def f110_c10:MC:=MC.ret
def f110_c11:MC:=.seq f110_c9 f110_c10
def f110_c12:MC:=MC.skip
def f110_c13:MC:=.cond (Qn 14) f110_c11 f110_c12
def f110_c14:MC:=.seq f110_c8 f110_c13
def f110_c15:MC:=.seq f110_c7 f110_c14
def f110_c16:MC:=.blk 1 f110_c15
def f110_r17:List MO:=[Qa (Qv 16) (Qe Qt Go.BinOp.add (Qn 8) (Qo (Qp (Qq (Qr Qu 1))))),Qa (Qv 8) (Qd (Qn 16))]
def f110_c17:MC:=.reg false f110_r17
def f110_c18:MC:=.seq f110_c16 f110_c17
def f110_c19:MC:=.seq f110_c6 f110_c18
def f110_c20:MC:=.seq f110_c3 f110_c19
def f110_c21:MC:=.loop f110_c20
def f110_c22:MC:=.blk 0 f110_c21
def f110_c23:MC:=.seq f110_c2 f110_c22
def f110_r24:List MO:=[Qa (Qv 17) (Qd (Qn 3)),Qa (Qv 2) (Qd (Qn 17))]
def f110_c24:MC:=.reg false f110_r24
def f110_c25:MC:=MC.ret
def f110_c26:MC:=.seq f110_c24 f110_c25
def f110_c27:MC:=.seq f110_c23 f110_c26
def f110_c28:MC:=.seq f110_c1 f110_c27
def f110_c29:MC:=.seq f110_c0 f110_c28
attribute [go_sem] f110_r0 f110_r1 f110_r2 f110_r3 f110_r7 f110_r8 f110_r9 f110_r17 f110_r24
noncomputable def f110_code : Code := (f110.body).getD .skip
theorem f110_body : f110.body = Qv f110_code := by kernel_rfl
theorem f110_tr : trC QP [] f110_code = Qv f110_c29 := by kernel_rfl
theorem f110_rs : rsOf QP f110.results.toList = Qv [(RV.t 2)] := by kernel_rfl
theorem f110_nt : f110.ntmps = 18 := by kernel_rfl
theorem f110_ok : callable QP 110 = true := by kernel_rfl
theorem f110_in {gp : Heap} {args : List V} {res : V} (h : G ⟨QP,gp,0,[(RV.t 2)],fun r c => r = res /\ c = [],false⟩ [.code f110_c29,.fin] ⟨args ++ List.replicate (18 - args.length) .un,[]⟩) : Does QP gp 110 args res :=
 does_intro f110_ok func110 f110_body f110_tr f110_rs (by rw [f110_nt]; exact h)
def f111_r0:List MO:=[Qa (Qv 4) (Qd (Qo (Qp (Qq (Qr Qu 0)))))]
def f111_c0:MC:=.reg false f111_r0
def f111_r1:List MO:=[Qa (Qv 7) (Qd (Qn 0)),Qa (Qv 8) (Qh 140 [(Qn 7)]),Qa (Qv 5) (Qd (Qn 8))]
def f111_c1:MC:=.reg false f111_r1
def f111_r2:List MO:=[Qa (Qv 9) (Qd (Qn 1)),Qa (Qv 10) (Qh 140 [(Qn 9)]),Qa (Qv 6) (Qd (Qn 10))]
def f111_c2:MC:=.reg false f111_r2
def f111_r3:List MO:=[Qa (Qv 11) (Qd (Qn 5))]
def f111_c3:MC:=.reg false f111_r3
def f111_r4:List MO:=[Qa (Qv 12) (Qd (Qn 6))]
def f111_c4:MC:=.reg false f111_r4
def f111_r5:List MO:=[Qa (Qv 4) (Qd (Qo (Qp (Qq (Qr Qu 0)))))]
def f111_c5:MC:=.reg false f111_r5
def f111_c6:MC:=MC.ret
def f111_c7:MC:=.seq f111_c5 f111_c6
def f111_c8:MC:=MC.skip
def f111_c9:MC:=.cond (Qn 12) f111_c7 f111_c8
def f111_c10:MC:=.seq f111_c4 f111_c9
def f111_r11:List MO:=[Qa (Qv 4) (Qd (Qo (Qp (Qq (Qr Qu (-1))))))]
def f111_c11:MC:=.reg false f111_r11
def f111_c12:MC:=MC.ret
def f111_c13:MC:=.seq f111_c11 f111_c12
def f111_c14:MC:=.seq f111_c10 f111_c13
def f111_c15:MC:=MC.skip
def f111_c16:MC:=.cond (Qn 11) f111_c14 f111_c15
def f111_c17:MC:=.seq f111_c3 f111_c16
def f111_r18:List MO:=[Qa (Qv 13) (Qd (Qn 6))]
def f111_c18:MC:=.reg false f111_r18
def f111_r19:List MO:=[Qa (Qv 4) (Qd (Qo (Qp (Qq (Qr Qu 1)))))]
def f111_c19:MC:=.reg false f111_r19
def f111_c20:MC:=MC.ret
def f111_c21:MC:=.seq f111_c19 f111_c20
def f111_c22:MC:=MC.skip
def f111_c23:MC:=.cond (Qn 13) f111_c21 f111_c22
def f111_c24:MC:=.seq f111_c18 f111_c23
def f111_r25:List MO:=[Qa (Qv 14) (Qd (Qn 0)),Qa (Qv 15) (Qd (Qn 1)),Qa (Qv 16) (Qe Qt Go.BinOp.lss (Qn 14) (Qn 15))]
def f111_c25:MC:=.reg false f111_r25
def f111_r26:List MO:=[Qa (Qv 4) (Qd (Qo (Qp (Qq (Qr Qu (-1))))))]
def f111_c26:MC:=.reg false f111_r26
def f111_c27:MC:=MC.ret
def f111_c28:MC:=.seq f111_c26 f111_c27
def f111_c29:MC:=MC.skip
def f111_c30:MC:=.cond (Qn 16) f111_c28 f111_c29
def f111_c31:MC:=.seq f111_c25 f111_c30
def f111_r32:List MO:=[Qa (Qv 17) (Qd (Qn 0)),Qa (Qv 18) (Qd (Qn 1)),Qa (Qv 19) (Qe Qt Go.BinOp.gtr (Qn 17) (Qn 18))]
def f111_c32:MC:=.reg false f111_r32
def f111_r33:List MO:=[Qa (Qv 4) (Qd (Qo (Qp (Qq (Qr Qu 1)))))]
def f111_c33:MC:=.reg false f111_r33
def f111_c34:MC:=MC.ret
def f111_c35:MC:=.seq f111_c33 f111_c34
def f111_c36:MC:=MC.skip
def f111_c37:MC:=.cond (Qn 19) f111_c35 f111_c36
def f111_c38:MC:=.seq f111_c32 f111_c37
def f111_r39:List MO:=[Qa (Qv 4) (Qd (Qo (Qp (Qq (Qr Qu 0)))))]
def f111_c39:MC:=.reg false f111_r39
def f111_c40:MC:=MC.ret
def f111_c41:MC:=.seq f111_c39 f111_c40
def f111_c42:MC:=.seq f111_c38 f111_c41
def f111_c43:MC:=.seq f111_c31 f111_c42
def f111_c44:MC:=.seq f111_c24 f111_c43
def f111_c45:MC:=.seq f111_c17 f111_c44
def f111_c46:MC:=.seq f111_c2 f111_c45
def f111_c47:MC:=.seq f111_c1 f111_c46
def f111_c48:MC:=.seq f111_c0 f111_c47
attribute [go_sem] f111_r0 f111_r1 f111_r2 f111_r3 f111_r4 f111_r5 f111_r11 f111_r18 f111_r19 f111_r25 f111_r26 f111_r32 f111_r33 f111_r39
noncomputable def f111_code : Code := (f111.body).getD .skip
theorem f111_body : f111.body = Qv f111_code := by kernel_rfl
theorem f111_tr : trC QP [] f111_code = Qv f111_c48 := by kernel_rfl
theorem f111_rs : rsOf QP f111.results.toList = Qv [(RV.t 4)] := by kernel_rfl
theorem f111_nt : f111.ntmps = 20 := by kernel_rfl
theorem f111_ok : callable QP 111 = true := by kernel_rfl
theorem f111_in {gp : Heap} {args : List V} {res : V} (h : G ⟨QP,gp,0,[(RV.t 4)],fun r c => r = res /\ c = [],false⟩ [.code f111_c48,.fin] ⟨args ++ List.replicate (20 - args.length) .un,[]⟩) : Does QP gp 111 args res :=
 does_intro f111_ok func111 f111_body f111_tr f111_rs (by rw [f111_nt]; exact h)
def f112_r0:List MO:=[Qa (Qv 4) (Qd (Qo (Qp (Qq (Qr Qu 0)))))]
def f112_c0:MC:=.reg false f112_r0
def f112_r1:List MO:=[Qa (Qv 7) (Qd (Qn 0)),Qa (Qv 8) (Qh 141 [(Qn 7)]),Qa (Qv 5) (Qd (Qn 8))]
def f112_c1:MC:=.reg false f112_r1
def f112_r2:List MO:=[Qa (Qv 9) (Qd (Qn 1)),Qa (Qv 10) (Qh 141 [(Qn 9)]),Qa (Qv 6) (Qd (Qn 10))]
def f112_c2:MC:=.reg false f112_r2
def f112_r3:List MO:=[Qa (Qv 11) (Qd (Qn 5))]
def f112_c3:MC:=.reg false f112_r3
def f112_r4:List MO:=[Qa (Qv 12) (Qd (Qn 6))]
def f112_c4:MC:=.reg false f112_r4
def f112_r5:List MO:=[Qa (Qv 4) (Qd (Qo (Qp (Qq (Qr Qu 0)))))]
def f112_c5:MC:=.reg false f112_r5
def f112_c6:MC:=MC.ret
def f112_c7:MC:=.seq f112_c5 f112_c6
def f112_c8:MC:=MC.skip
def f112_c9:MC:=.cond (Qn 12) f112_c7 f112_c8
def f112_c10:MC:=.seq f112_c4 f112_c9
def f112_r11:List MO:=[Qa (Qv 4) (Qd (Qo (Qp (Qq (Qr Qu (-1))))))]
def f112_c11:MC:=.reg false f112_r11
def f112_c12:MC:=MC.ret
def f112_c13:MC:=.seq f112_c11 f112_c12
def f112_c14:MC:=.seq f112_c10 f112_c13
def f112_c15:MC:=MC.skip
def f112_c16:MC:=.cond (Qn 11) f112_c14 f112_c15
def f112_c17:MC:=.seq f112_c3 f112_c16
def f112_r18:List MO:=[Qa (Qv 13) (Qd (Qn 6))]
def f112_c18:MC:=.reg false f112_r18
def f112_r19:List MO:=[Qa (Qv 4) (Qd (Qo (Qp (Qq (Qr Qu 1)))))]
def f112_c19:MC:=.reg false f112_r19
def f112_c20:MC:=MC.ret
def f112_c21:MC:=.seq f112_c19 f112_c20
def f112_c22:MC:=MC.skip
def f112_c23:MC:=.cond (Qn 13) f112_c21 f112_c22
def f112_c24:MC:=.seq f112_c18 f112_c23
def f112_r25:List MO:=[Qa (Qv 14) (Qd (Qn 0)),Qa (Qv 15) (Qd (Qn 1)),Qa (Qv 16) (Qe Leaf.s Go.BinOp.lss (Qn 14) (Qn 15))]
def f112_c25:MC:=.reg false f112_r25
def f112_r26:List MO:=[Qa (Qv 4) (Qd (Qo (Qp (Qq (Qr Qu (-1))))))]
def f112_c26:MC:=.reg false f112_r26
def f112_c27:MC:=MC.ret
def f112_c28:MC:=.seq f112_c26 f112_c27
def f112_c29:MC:=MC.skip
def f112_c30:MC:=.cond (Qn 16) f112_c28 f112_c29
def f112_c31:MC:=.seq f112_c25 f112_c30
def f112_r32:List MO:=[Qa (Qv 17) (Qd (Qn 0)),Qa (Qv 18) (Qd (Qn 1)),Qa (Qv 19) (Qe Leaf.s Go.BinOp.gtr (Qn 17) (Qn 18))]
def f112_c32:MC:=.reg false f112_r32
def f112_r33:List MO:=[Qa (Qv 4) (Qd (Qo (Qp (Qq (Qr Qu 1)))))]
def f112_c33:MC:=.reg false f112_r33
def f112_c34:MC:=MC.ret
def f112_c35:MC:=.seq f112_c33 f112_c34
def f112_c36:MC:=MC.skip
def f112_c37:MC:=.cond (Qn 19) f112_c35 f112_c36
def f112_c38:MC:=.seq f112_c32 f112_c37
def f112_r39:List MO:=[Qa (Qv 4) (Qd (Qo (Qp (Qq (Qr Qu 0)))))]
def f112_c39:MC:=.reg false f112_r39
def f112_c40:MC:=MC.ret
def f112_c41:MC:=.seq f112_c39 f112_c40
def f112_c42:MC:=.seq f112_c38 f112_c41
def f112_c43:MC:=.seq f112_c31 f112_c42
def f112_c44:MC:=.seq f112_c24 f112_c43
def f112_c45:MC:=.seq f112_c17 f112_c44
def f112_c46:MC:=.seq f112_c2 f112_c45
def f112_c47:MC:=.seq f112_c1 f112_c46
def f112_c48:MC:=.seq f112_c0 f112_c47
attribute [go_sem] f112_r0 f112_r1 f112_r2 f112_r3 f112_r4 f112_r5 f112_r11 f112_r18 f112_r19 f112_r25 f112_r26 f112_r32 f112_r33 f112_r39
noncomputable def f112_code : Code := (f112.body).getD .skip
theorem f112_body : f112.body = Qv f112_code := by kernel_rfl
theorem f112_tr : trC QP [] f112_code = Qv f112_c48 := by kernel_rfl
theorem f112_rs : rsOf QP f112.results.toList = Qv [(RV.t 4)] := by kernel_rfl
theorem f112_nt : f112.ntmps = 20 := by kernel_rfl
theorem f112_ok : callable QP 112 = true := by kernel_rfl
theorem f112_in {gp : Heap} {args : List V} {res : V} (h : G ⟨QP,gp,0,[(RV.t 4)],fun r c => r = res /\ c = [],false⟩ [.code f112_c48,.fin] ⟨args ++ List.replicate (20 - args.length) .un,[]⟩) : Does QP gp 112 args res :=
 does_intro f112_ok func112 f112_body f112_tr f112_rs (by rw [f112_nt]; exact h)
def f120_c0:MC:=MC.skip
def f120_r1:List MO:=[Qa (Qv 5) (Qg 1 (Qn 1)),Qa (Qv 6) (Qf 1 false (Qn 5)),Qa (Qv 7) (Qk Qt (Qn 6)),Qa (Qv 8) (Qd (Qo (Qp (Qq (Qr Qu 0)))))]
def f120_c1:MC:=.reg false f120_r1
def f120_r2:List MO:=[Qa (Qv 9) (Qe Qt Go.BinOp.lss (Qn 8) (Qn 7))]
def f120_c2:MC:=.reg false f120_r2
def f120_c3:MC:=MC.skip
def f120_c4:MC:=(MC.exit 0)
def f120_c5:MC:=.cond (Qn 9) f120_c3 f120_c4
def f120_r6:List MO:=[Qa (Qv 10) (Qd (Qn 8)),Qa (Qv 11) (Qj 6 (Qn 6) (Qn 8)),Qa (Qv 12) (Qf 6 true (Qn 11)),Qa (Qv 4) (MOp.alloc [(Qr Qu 0),(Qr Qu 0),(Qr Qu 0),(D.str (ByteArray.mk #[])),(D.sl []),(D.sl [])]),Qa (Qv 3) (Qd (Qn 10)),Qa none (Ql 6 (Qn 4) (Qn 12))]
def f120_c6:MC:=.reg false f120_r6
def f120_r7:List MO:=[Qa (Qv 13) (Qd (Qn 0)),Qa (Qv 14) (Qd (Qn 3)),Qa (Qv 15) (Qf 6 true (Qn 4)),Qa (Qv 16) (Qg 1 (Qn 1)),Qa (Qv 17) (Qf 1 false (Qn 16)),Qa (Qv 18) (Qk Qt (Qn 17)),Qa (Qv 19) (MOp.build [(Qr Qu 0),(Qr Qu 0),(Qr Qu 0),(D.str (ByteArray.mk #[])),(D.sl []),(D.sl []),(Qr Qu 0)] [(0,(6,(Qn 15))),(6,(1,(Qn 18)))]),Qa (Qv 20) (MOp.callv (Qn 13) [(Qn 14),(Qn 19)]),Qa (Qv 21) (MOp.not (Qn 20))]
def f120_c7:MC:=.reg false f120_r7
def f120_c8:MC:=(MC.exit 0)
def f120_c9:MC:=MC.skip
def f120_c10:MC:=.cond (Qn 21) f120_c8 f120_c9
def f120_c11:MC:=.seq f120_c7 f120_c10
def f120_c12:MC:=.seq f120_c6 f120_c11
def f120_c13:MC:=.blk 1 f120_c12
def f120_r14:List MO:=[Qa (Qv 22) (Qe Qt Go.BinOp.add (Qn 8) (Qo (Qp (Qq (Qr Qu 1))))),Qa (Qv 8) (Qd (Qn 22))]
def f120_c14:MC:=.reg false f120_r14
def f120_c15:MC:=.seq f120_c13 f120_c14
def f120_c16:MC:=.seq f120_c5 f120_c15
def f120_c17:MC:=.seq f120_c2 f120_c16
def f120_c18:MC:=.loop f120_c17
def f120_c19:MC:=.blk 0 f120_c18
def f120_c20:MC:=.seq f120_c1 f120_c19
def f120_c21:MC:=.seq f120_c0 f120_c20
def f120_c22:MC:=.scope f120_c21
attribute [go_sem] f120_r1 f120_r2 f120_r6 f120_r7 f120_r14
noncomputable def f120_code : Code := (f120.body).getD .skip
theorem f120_body : f120.body = Qv f120_code := by kernel_rfl
theorem f120_tr : trC QP [] f120_code = Qv f120_c22 := by kernel_rfl
theorem f120_rs : rsOf QP f120.results.toList = Qv [] := by kernel_rfl
theorem f120_nt : f120.ntmps = 23 := by kernel_rfl
theorem f120_ok : callable QP 120 = true := by kernel_rfl
theorem f120_tri {gp : Heap} {args : List V} {pre : List Ch} {R : V -> List Ch -> Prop} (h : G ⟨QP,gp,pre.length,[],R,false⟩ [.code f120_c22,.fin] ⟨args ++ List.replicate (23 - args.length) .un,pre⟩) : Tri QP gp 120 args pre R :=
 tri_intro func120 f120_body f120_tr f120_rs (by rw [f120_nt]; exact h)
def f121_r0:List MO:=[Qa (Qv 1) (MOp.ibox (Qn 0)),Qa (Qv 2) (Qd (Qo (Qp (Qq (Qs false)))))]
def f121_c0:MC:=.reg false f121_r0
def f121_r1:List MO:=[Qa (Qv 3) (Qg 0 (Qn 1)),Qa (Qv 4) (Qg 1 (Qn 3)),Qa (Qv 5) (Qf 3 true (Qn 4)),Qa (Qv 6) (Qh 131 [(Qn 5)]),Qa (Qv 7) (Qg 0 (Qn 1)),Qa (Qv 8) (Qg 4 (Qn 7)),Qa (Qv 9) (Qf 1 false (Qn 8)),Qa (Qv 10) (Qk Qt (Qn 9)),Qa (Qv 11) (Qe Qt Go.BinOp.eql (Qn 10) (Qo (Qp (Qq (Qr Qu 0))))),Qa (Qv 12) (Qg 0 (Qn 1)),Qa (Qv 13) (Qg 5 (Qn 12)),Qa (Qv 14) (Qf 1 false (Qn 13)),Qa (Qv 15) (Qk Qt (Qn 14)),Qa (Qv 16) (Qe Qt Go.BinOp.eql (Qn 15) (Qo (Qp (Qq (Qr Qu 0))))),Qa (Qv 17) (MOp.bslice 1 [(Qs false)] 3 [(0,(Qn 6)),(1,(Qn 11)),(2,(Qn 16))]),Qc (Qv 18) (Qh 145 [(Qn 17)]),Qa (Qv 2) (Qd (Qn 18))]
def f121_c1:MC:=.reg true f121_r1
def f121_c2:MC:=MC.ret
def f121_c3:MC:=.seq f121_c1 f121_c2
def f121_c4:MC:=.seq f121_c0 f121_c3
attribute [go_sem] f121_r0 f121_r1
noncomputable def f121_code : Code := (f121.body).getD .skip
theorem f121_body : f121.body = Qv f121_code := by kernel_rfl
theorem f121_tr : trC QP [1] f121_code = Qv f121_c4 := by kernel_rfl
theorem f121_rs : rsOf QP f121.results.toList = Qv [(RV.t 2)] := by kernel_rfl
theorem f121_nt : f121.ntmps = 19 := by kernel_rfl
theorem f121_ok : callable QP 121 = true := by kernel_rfl
theorem f121_in {gp : Heap} {args : List V} {res : V} (h : G ⟨QP,gp,0,[(RV.t 2)],fun r c => r = res /\ c = [],false⟩ [.code f121_c4,.fin] ⟨args ++ List.replicate (19 - args.length) .un,[]⟩) : Does QP gp 121 args res :=
 does_intro f121_ok func121 f121_body f121_tr f121_rs (by rw [f121_nt]; exact h)
def f122_r0:List MO:=[Qa (Qv 1) (MOp.ibox (Qn 0)),Qa (Qv 2) (Qd (Qo (Qp (Qq (Qs false)))))]
def f122_c0:MC:=.reg false f122_r0
def f122_r1:List MO:=[Qa (Qv 3) (Qg 0 (Qn 1)),Qa (Qv 4) (Qg 1 (Qn 3)),Qa (Qv 5) (Qf 3 true (Qn 4)),Qa (Qv 6) (MOp.build [(Qr Qu 0),(Qr Qu 0),(D.str (ByteArray.mk #[]))] []),Qa (Qv 7) (MOp.eqs false [Qt,Qt,Leaf.s] (Qn 5) (Qn 6)),Qa (Qv 8) (Qg 0 (Qn 1)),Qa (Qv 9) (Qg 4 (Qn 8)),Qa (Qv 10) (Qf 1 false (Qn 9)),Qa (Qv 11) (Qk Qt (Qn 10)),Qa (Qv 12) (Qe Qt Go.BinOp.eql (Qn 11) (Qo (Qp (Qq (Qr Qu 0))))),Qa (Qv 13) (Qf 7 true (Qn 1)),Qa (Qv 14) (Qh 146 [(Qn 13)]),Qa (Qv 15) (MOp.bslice 1 [(Qs false)] 3 [(0,(Qn 7)),(1,(Qn 12)),(2,(Qn 14))]),Qc (Qv 16) (Qh 145 [(Qn 15)]),Qa (Qv 2) (Qd (Qn 16))]
def f122_c1:MC:=.reg true f122_r1
def f122_c2:MC:=MC.ret
def f122_c3:MC:=.seq f122_c1 f122_c2
def f122_c4:MC:=.seq f122_c0 f122_c3
attribute [go_sem] f122_r0 f122_r1
noncomputable def f122_code : Code := (f122.body).getD .skip
theorem f122_body : f122.body = Qv f122_code := by kernel_rfl
theorem f122_tr : trC QP [1] f122_code = Qv f122_c4 := by kernel_rfl
theorem f122_rs : rsOf QP f122.results.toList = Qv [(RV.t 2)] := by kernel_rfl
theorem f122_nt : f122.ntmps = 17 := by kernel_rfl
theorem f122_ok : callable QP 122 = true := by kernel_rfl
theorem f122_in {gp : Heap} {args : List V} {res : V} (h : G ⟨QP,gp,0,[(RV.t 2)],fun r c => r = res /\ c = [],false⟩ [.code f122_c4,.fin] ⟨args ++ List.replicate (17 - args.length) .un,[]⟩) : Does QP gp 122 args res :=
 does_intro f122_ok func122 f122_body f122_tr f122_rs (by rw [f122_nt]; exact h)
def f123_r0:List MO:=[Qa (Qv 1) (MOp.ibox (Qn 0)),Qa (Qv 2) (Qd (Qo (Qp (Qq (Qs false)))))]
def f123_c0:MC:=.reg false f123_r0
def f123_r1:List MO:=[Qa (Qv 3) (Qg 0 (Qn 1)),Qa (Qv 4) (Qg 1 (Qn 3)),Qa (Qv 5) (Qf 3 true (Qn 4)),Qa (Qv 6) (MOp.build [(Qr Qu 0),(Qr Qu 0),(D.str (ByteArray.mk #[]))] []),Qa (Qv 7) (MOp.eqs false [Qt,Qt,Leaf.s] (Qn 5) (Qn 6)),Qa (Qv 8) (Qf 7 true (Qn 1)),Qa (Qv 9) (Qh 87 [(Qn 8)]),Qa (Qv 10) (Qf 7 true (Qn 1)),Qa (Qv 11) (Qh 147 [(Qn 10)]),Qa (Qv 12) (Qf 7 true (Qn 1)),Qa (Qv 13) (Qh 146 [(Qn 12)]),Qa (Qv 14) (MOp.bslice 1 [(Qs false)] 4 [(0,(Qn 7)),(1,(Qn 9)),(2,(Qn 11)),(3,(Qn 13))]),Qc (Qv 15) (Qh 145 [(Qn 14)]),Qa (Qv 2) (Qd (Qn 15))]
def f123_c1:MC:=.reg true f123_r1
def f123_c2:MC:=MC.ret
def f123_c3:MC:=.seq f123_c1 f123_c2
def f123_c4:MC:=.seq f123_c0 f123_c3
attribute [go_sem] f123_r0 f123_r1
noncomputable def f123_code : Code := (f123.body).getD .skip
theorem f123_body : f123.body = Qv f123_code := by kernel_rfl
theorem f123_tr : trC QP [1] f123_code = Qv f123_c4 := by kernel_rfl
theorem f123_rs : rsOf QP f123.results.toList = Qv [(RV.t 2)] := by kernel_rfl
theorem f123_nt : f123.ntmps = 16 := by kernel_rfl
theorem f123_ok : callable QP 123 = true := by kernel_rfl
theorem f123_in {gp : Heap} {args : List V} {res : V} (h : G ⟨QP,gp,0,[(RV.t 2)],fun r c => r = res /\ c = [],false⟩ [.code f123_c4,.fin] ⟨args ++ List.replicate (16 - args.length) .un,[]⟩) : Does QP gp 123 args res :=
 does_intro f123_ok func123 f123_body f123_tr f123_rs (by rw [f123_nt]; exact h)
def f131_r0:List MO:=[Qa (Qv 1) (MOp.ibox (Qn 0)),Qa (Qv 2) (Qd (Qo (Qp (Qq (Qs false)))))]
def f131_c0:MC:=.reg false f131_r0
def f131_r1:List MO:=[Qa (Qv 3) (Qg 0 (Qn 1)),Qa (Qv 4) (Qf 1 false (Qn 3))]
def f131_c1:MC:=.reg false f131_r1
def f131_r2:List MO:=[Qa (Qv 6) (Qe Qt Go.BinOp.eql (Qn 4) (Qo (Qp (Qq (Qr Qu 0))))),Qa (Qv 5) (Qd (Qn 6))]
def f131_c2:MC:=.reg false f131_r2
def f131_r3:List MO:=[Qa (Qv 7) (Qf 3 true (Qn 1)),Qa (Qv 8) (MOp.build [(Qr Qu 0),(Qr Qu 0),(D.str (ByteArray.mk #[]))] []),Qa (Qv 9) (MOp.eqs false [Qt,Qt,Leaf.s] (Qn 7) (Qn 8)),Qa (Qv 2) (Qd (Qn 9))]
def f131_c3:MC:=.reg false f131_r3
def f131_c4:MC:=MC.ret
def f131_c5:MC:=.seq f131_c3 f131_c4
def f131_r6:List MO:=[Qa (Qv 11) (Qe Qt Go.BinOp.eql (Qn 4) (Qo (Qp (Qq (Qr Qu 1))))),Qa (Qv 10) (Qd (Qn 11))]
def f131_c6:MC:=.reg false f131_r6
def f131_r7:List MO:=[Qa (Qv 12) (Qg 2 (Qn 1)),Qa (Qv 13) (Qf 1 false (Qn 12)),Qa (Qv 14) (Qe Leaf.s Go.BinOp.eql (Qn 13) (Qo (Qp (Qq (D.str (ByteArray.mk #[])))))),Qa (Qv 15) (Qd (Qn 14)),Qb 15 true (Qv 16),Qa (Qv 16) (Qg 1 (Qn 1)),Qb 15 true (Qv 17),Qa (Qv 17) (Qf 1 false (Qn 16)),Qb 15 true (Qv 18),Qa (Qv 18) (Qe Qt Go.BinOp.eql (Qn 17) (Qo (Qp (Qq (Qr Qu 0))))),Qb 15 true (Qv 19),Qa (Qv 19) (Qd (Qn 18)),Qb 19 false (Qv 20),Qa (Qv 20) (Qg 1 (Qn 1)),Qb 19 false (Qv 21),Qa (Qv 21) (Qf 1 false (Qn 20)),Qb 19 false (Qv 22),Qa (Qv 22) (Qe Qt Go.BinOp.eql (Qn 21) (Qo (Qp (Qq (Qr Qu 1))))),Qb 15 true (Qv 23),Qa (Qv 23) (Qm (Qn 19) (Qo (Qp (Qq (Qs true)))) (Qn 22)),Qa (Qv 24) (Qm (Qn 15) (Qn 23) (Qo (Qp (Qq (Qs false))))),Qa (Qv 2) (Qd (Qn 24))]
def f131_c7:MC:=.reg false f131_r7
def f131_c8:MC:=MC.ret
def f131_c9:MC:=.seq f131_c7 f131_c8
def f131_r10:List MO:=[Qa (Qv 26) (Qe Qt Go.BinOp.eql (Qn 4) (Qo (Qp (Qq (Qr Qu 2))))),Qa (Qv 25) (Qd (Qn 26))]
def f131_c10:MC:=.reg false f131_r10
def f131_r11:List MO:=[Qa (Qv 27) (Qg 2 (Qn 1)),Qa (Qv 28) (Qf 1 false (Qn 27)),Qa (Qv 29) (Qe Leaf.s Go.BinOp.eql (Qn 28) (Qo (Qp (Qq (D.str (ByteArray.mk #[])))))),Qa (Qv 30) (Qd (Qn 29)),Qb 30 true (Qv 31),Qa (Qv 31) (Qg 1 (Qn 1)),Qb 30 true (Qv 32),Qa (Qv 32) (Qf 1 false (Qn 31)),Qb 30 true (Qv 33),Qa (Qv 33) (Qe Qt Go.BinOp.geq (Qn 32) (Qo (Qp (Qq (Qr Qu (-999999999999999)))))),Qa (Qv 34) (Qm (Qn 30) (Qn 33) (Qo (Qp (Qq (Qs false))))),Qa (Qv 35) (Qd (Qn 34)),Qb 35 true (Qv 36),Qa (Qv 36) (Qg 1 (Qn 1)),Qb 35 true (Qv 37),Qa (Qv 37) (Qf 1 false (Qn 36)),Qb 35 true (Qv 38),Qa (Qv 38) (Qe Qt Go.BinOp.leq (Qn 37) (Qo (Qp (Qq (Qr Qu 999999999999999))))),Qa (Qv 39) (Qm (Qn 35) (Qn 38) (Qo (Qp (Qq (Qs false))))),Qa (Qv 2) (Qd (Qn 39))]
def f131_c11:MC:=.reg false f131_r11
def f131_c12:MC:=MC.ret
def f131_c13:MC:=.seq f131_c11 f131_c12
def f131_r14:List MO:=[Qa (Qv 41) (Qe Qt Go.BinOp.eql (Qn 4) (Qo (Qp (Qq (Qr Qu 3))))),Qa (Qv 40) (Qd (Qn 41))]
def f131_c14:MC:=.reg false f131_r14
def f131_r15:List MO:=[Qa (Qv 42) (Qg 1 (Qn 1)),Qa (Qv 43) (Qf 1 false (Qn 42)),Qa (Qv 44) (Qe Qt Go.BinOp.eql (Qn 43) (Qo (Qp (Qq (Qr Qu 0))))),Qa (Qv 45) (Qd (Qn 44)),Qb 45 true (Qv 46),Qa (Qv 46) (Qg 2 (Qn 1)),Qb 45 true (Qv 47),Qa (Qv 47) (Qf 1 false (Qn 46)),Qb 45 true (Qv 48),Qa (Qv 48) (Qh 151 [(Qn 47)]),Qa (Qv 49) (Qm (Qn 45) (Qn 48) (Qo (Qp (Qq (Qs false))))),Qa (Qv 2) (Qd (Qn 49))]
def f131_c15:MC:=.reg false f131_r15
def f131_c16:MC:=MC.ret
def f131_c17:MC:=.seq f131_c15 f131_c16
def f131_c18:MC:=MC.skip
def f131_c19:MC:=.cond (Qn 40) f131_c17 f131_c18
def f131_c20:MC:=.seq f131_c14 f131_c19
def f131_c21:MC:=.cond (Qn 25) f131_c13 f131_c20
def f131_c22:MC:=.seq f131_c10 f131_c21
def f131_c23:MC:=.cond (Qn 10) f131_c9 f131_c22
def f131_c24:MC:=.seq f131_c6 f131_c23
def f131_c25:MC:=.cond (Qn 5) f131_c5 f131_c24
def f131_c26:MC:=.seq f131_c2 f131_c25
def f131_c27:MC:=.blk 0 f131_c26
def f131_c28:MC:=.seq f131_c1 f131_c27
def f131_r29:List MO:=[Qa (Qv 2) (Qd (Qo (Qp (Qq (Qs false)))))]
def f131_c29:MC:=.reg false f131_r29
def f131_c30:MC:=MC.ret
def f131_c31:MC:=.seq f131_c29 f131_c30
def f131_c32:MC:=.seq f131_c28 f131_c31
def f131_c33:MC:=.seq f131_c0 f131_c32
attribute [go_sem] f131_r0 f131_r1 f131_r2 f131_r3 f131_r6 f131_r7 f131_r10 f131_r11 f131_r14 f131_r15 f131_r29
noncomputable def f131_code : Code := (f131.body).getD .skip
theorem f131_body : f131.body = Qv f131_code := by kernel_rfl
theorem f131_tr : trC QP [1] f131_code = Qv f131_c33 := by kernel_rfl
theorem f131_rs : rsOf QP f131.results.toList = Qv [(RV.t 2)] := by kernel_rfl
theorem f131_nt : f131.ntmps = 50 := by kernel_rfl
theorem f131_ok : callable QP 131 = true := by kernel_rfl
theorem f131_in {gp : Heap} {args : List V} {res : V} (h : G ⟨QP,gp,0,[(RV.t 2)],fun r c => r = res /\ c = [],false⟩ [.code f131_c33,.fin] ⟨args ++ List.replicate (50 - args.length) .un,[]⟩) : Does QP gp 131 args res :=
 does_intro f131_ok func131 f131_body f131_tr f131_rs (by rw [f131_nt]; exact h)
def f138_r0:List MO:=[Qa (Qv 10) (Qd (Qn 1)),Qa (Qv 11) (Qe Qt Go.BinOp.add (Qn 10) (Qo (Qp (Qq (Qr Qu 1))))),Qa (Qv 8) (Qd (Qn 11))]
def f138_c0:MC:=.reg false f138_r0
def f138_r1:List MO:=[Qa (Qv 12) (Qd (Qn 8)),Qa (Qv 13) (Qd (Qn 2)),Qa (Qv 14) (Qe Qt Go.BinOp.lss (Qn 12) (Qn 13))]
def f138_c1:MC:=.reg false f138_r1
def f138_c2:MC:=MC.skip
def f138_c3:MC:=(MC.exit 0)
def f138_c4:MC:=.cond (Qn 14) f138_c2 f138_c3
def f138_c5:MC:=.seq f138_c1 f138_c4
def f138_r6:List MO:=[Qa (Qv 17) (Qd (Qn 8)),Qa (Qv 9) (Qd (Qn 17))]
def f138_c6:MC:=.reg false f138_r6
def f138_r7:List MO:=[Qa (Qv 18) (Qd (Qn 9)),Qa (Qv 19) (Qd (Qn 1)),Qa (Qv 20) (Qe Qt Go.BinOp.gtr (Qn 18) (Qn 19)),Qa (Qv 21) (Qd (Qn 20)),Qb 21 true (Qv 22),Qa (Qv 22) (Qd (Qn 3)),Qb 21 true (Qv 23),Qa (Qv 23) (Qd (Qn 0)),Qb 21 true (Qv 24),Qa (Qv 24) (Qd (Qn 9)),Qb 21 true (Qv 25),Qa (Qv 25) (Qj 4 (Qn 23) (Qn 24)),Qb 21 true (Qv 26),Qa (Qv 26) (Qf 4 true (Qn 25)),Qb 21 true (Qv 27),Qa (Qv 27) (Qd (Qn 0)),Qb 21 true (Qv 28),Qa (Qv 28) (Qd (Qn 9)),Qb 21 true (Qv 29),Qa (Qv 29) (Qe Qt Go.BinOp.sub (Qn 28) (Qo (Qp (Qq (Qr Qu 1))))),Qb 21 true (Qv 30),Qa (Qv 30) (Qj 4 (Qn 27) (Qn 29)),Qb 21 true (Qv 31),Qa (Qv 31) (Qf 4 true (Qn 30)),Qb 21 true (Qv 32),Qc (Qv 32) (MOp.callv (Qn 22) [(Qn 26),(Qn 31)]),Qb 21 true (Qv 33),Qa (Qv 33) (Qe Qt Go.BinOp.lss (Qn 32) (Qo (Qp (Qq (Qr Qu 0))))),Qa (Qv 34) (Qm (Qn 21) (Qn 33) (Qo (Qp (Qq (Qs false)))))]
def f138_c7:MC:=.reg true f138_r7
def f138_c8:MC:=MC.skip
def f138_c9:MC:=(MC.exit 2)
def f138_c10:MC:=.cond (Qn 34) f138_c8 f138_c9
def f138_c11:MC:=.seq f138_c7 f138_c10
def f138_r12:List MO:=[Qa (Qv 37) (Qd (Qn 0)),Qa (Qv 38) (Qd (Qn 9)),Qa (Qv 39) (Qd (Qn 0)),Qa (Qv 40) (Qd (Qn 9)),Qa (Qv 41) (Qe Qt Go.BinOp.sub (Qn 40) (Qo (Qp (Qq (Qr Qu 1))))),Qa (Qv 42) (Qd (Qn 0)),Qa (Qv 43) (Qd (Qn 9)),Qa (Qv 44) (Qe Qt Go.BinOp.sub (Qn 43) (Qo (Qp (Qq (Qr Qu 1))))),Qa (Qv 45) (Qj 4 (Qn 42) (Qn 44)),Qa (Qv 46) (Qf 4 true (Qn 45)),Qa (Qv 47) (Qd (Qn 0)),Qa (Qv 48) (Qd (Qn 9)),Qa (Qv 49) (Qj 4 (Qn 47) (Qn 48)),Qa (Qv 50) (Qf 4 true (Qn 49)),Qa (Qv 51) (Qj 4 (Qn 37) (Qn 38)),Qa none (Ql 4 (Qn 51) (Qn 46)),Qa (Qv 52) (Qj 4 (Qn 39) (Qn 41)),Qa none (Ql 4 (Qn 52) (Qn 50))]
def f138_c12:MC:=.reg true f138_r12
def f138_c13:MC:=.blk 3 f138_c12
def f138_r14:List MO:=[Qa (Qv 35) (Qd (Qn 9)),Qa (Qv 36) (Qe Qt Go.BinOp.sub (Qn 35) (Qo (Qp (Qq (Qr Qu 1))))),Qa (Qv 9) (Qd (Qn 36))]
def f138_c14:MC:=.reg false f138_r14
def f138_c15:MC:=.seq f138_c13 f138_c14
def f138_c16:MC:=.seq f138_c11 f138_c15
def f138_c17:MC:=.loop f138_c16
def f138_c18:MC:=.blk 2 f138_c17
def f138_c19:MC:=.seq f138_c6 f138_c18
def f138_c20:MC:=.blk 1 f138_c19
def f138_r21:List MO:=[Qa (Qv 15) (Qd (Qn 8)),Qa (Qv 16) (Qe Qt Go.BinOp.add (Qn 15) (Qo (Qp (Qq (Qr Qu 1))))),Qa (Qv 8) (Qd (Qn 16))]
def f138_c21:MC:=.reg false f138_r21
def f138_c22:MC:=.seq f138_c20 f138_c21
def f138_c23:MC:=.seq f138_c5 f138_c22
def f138_c24:MC:=.loop f138_c23
def f138_c25:MC:=.blk 0 f138_c24
def f138_c26:MC:=.seq f138_c0 f138_c25
attribute [go_sem] f138_r0 f138_r1 f138_r6 f138_r7 f138_r12 f138_r14 f138_r21
noncomputable def f138_code : Code := (f138.body).getD .skip
theorem f138_body : f138.body = Qv f138_code := by kernel_rfl
theorem f138_tr : trC QP [] f138_code = Qv f138_c26 := by kernel_rfl
theorem f138_rs : rsOf QP f138.results.toList = Qv [] := by kernel_rfl
theorem f138_nt : f138.ntmps = 53 := by kernel_rfl
theorem f138_ok : callable QP 138 = true := by kernel_rfl
theorem f138_tri {gp : Heap} {args : List V} {pre : List Ch} {R : V -> List Ch -> Prop} (h : G ⟨QP,gp,pre.length,[],R,false⟩ [.code f138_c26,.fin] ⟨args ++ List.replicate (53 - args.length) .un,pre⟩) : Tri QP gp 138 args pre R :=
 tri_intro func138 f138_body f138_tr f138_rs (by rw [f138_nt]; exact h)
def f140_r0:List MO:=[Qa (Qv 2) (Qd (Qo (Qp (Qq (Qs false)))))]
def f140_c0:MC:=.reg false f140_r0
def f140_r1:List MO:=[Qa (Qv 3) (Qd (Qn 0)),Qa (Qv 4) (Qd (Qn 0)),Qa (Qv 5) (Qe Qt Go.BinOp.neq (Qn 3) (Qn 4)),Qa (Qv 2) (Qd (Qn 5))]
def f140_c1:MC:=.reg false f140_r1
def f140_c2:MC:=MC.ret
def f140_c3:MC:=.seq f140_c1 f140_c2
def f140_c4:MC:=.seq f140_c0 f140_c3
attribute [go_sem] f140_r0 f140_r1
noncomputable def f140_code : Code := (f140.body).getD .skip
theorem f140_body : f140.body = Qv f140_code := by kernel_rfl
theorem f140_tr : trC QP [] f140_code = Qv f140_c4 := by kernel_rfl
theorem f140_rs : rsOf QP f140.results.toList = Qv [(RV.t 2)] := by kernel_rfl
theorem f140_nt : f140.ntmps = 6 := by kernel_rfl
theorem f140_ok : callable QP 140 = true := by kernel_rfl
theorem f140_in {gp : Heap} {args : List V} {res : V} (h : G ⟨QP,gp,0,[(RV.t 2)],fun r c => r = res /\ c = [],false⟩ [.code f140_c4,.fin] ⟨args ++ List.replicate (6 - args.length) .un,[]⟩) : Does QP gp 140 args res :=
 does_intro f140_ok func140 f140_body f140_tr f140_rs (by rw [f140_nt]; exact h)
def f141_r0:List MO:=[Qa (Qv 2) (Qd (Qo (Qp (Qq (Qs false)))))]
def f141_c0:MC:=.reg false f141_r0
def f141_r1:List MO:=[Qa (Qv 3) (Qd (Qn 0)),Qa (Qv 4) (Qd (Qn 0)),Qa (Qv 5) (Qe Leaf.s Go.BinOp.neq (Qn 3) (Qn 4)),Qa (Qv 2) (Qd (Qn 5))]
def f141_c1:MC:=.reg false f141_r1
def f141_c2:MC:=MC.ret
def f141_c3:MC:=.seq f141_c1 f141_c2
def f141_c4:MC:=.seq f141_c0 f141_c3
attribute [go_sem] f141_r0 f141_r1
noncomputable def f141_code : Code := (f141.body).getD .skip
theorem f141_body : f141.body = Qv f141_code := by kernel_rfl
theorem f141_tr : trC QP [] f141_code = Qv f141_c4 := by kernel_rfl
theorem f141_rs : rsOf QP f141.results.toList = Qv [(RV.t 2)] := by kernel_rfl
theorem f141_nt : f141.ntmps = 6 := by kernel_rfl
theorem f141_ok : callable QP 141 = true := by kernel_rfl
theorem f141_in {gp : Heap} {args : List V} {res : V} (h : G ⟨QP,gp,0,[(RV.t 2)],fun r c => r = res /\ c = [],false⟩ [.code f141_c4,.fin] ⟨args ++ List.replicate (6 - args.length) .un,[]⟩) : Does QP gp 141 args res :=
 does_intro f141_ok func141 f141_body f141_tr f141_rs (by rw [f141_nt]; exact h)
def f145_r0:List MO:=[Qa (Qv 2) (Qd (Qo (Qp (Qq (Qs false)))))]
def f145_c0:MC:=.reg false f145_r0
def f145_r1:List MO:=[Qa (Qv 3) (Qd (Qn 0)),Qa (Qv 4) (Qh 157 [(Qn 3),(Qo (Qp (Qq (Qs false))))]),Qa (Qv 5) (MOp.not (Qn 4)),Qa (Qv 2) (Qd (Qn 5))]
def f145_c1:MC:=.reg false f145_r1
def f145_c2:MC:=MC.ret
def f145_c3:MC:=.seq f145_c1 f145_c2
def f145_c4:MC:=.seq f145_c0 f145_c3
attribute [go_sem] f145_r0 f145_r1
noncomputable def f145_code : Code := (f145.body).getD .skip
theorem f145_body : f145.body = Qv f145_code := by kernel_rfl
theorem f145_tr : trC QP [] f145_code = Qv f145_c4 := by kernel_rfl
theorem f145_rs : rsOf QP f145.results.toList = Qv [(RV.t 2)] := by kernel_rfl
theorem f145_nt : f145.ntmps = 6 := by kernel_rfl
theorem f145_ok : callable QP 145 = true := by kernel_rfl
theorem f145_in {gp : Heap} {args : List V} {res : V} (h : G ⟨QP,gp,0,[(RV.t 2)],fun r c => r = res /\ c = [],false⟩ [.code f145_c4,.fin] ⟨args ++ List.replicate (6 - args.length) .un,[]⟩) : Does QP gp 145 args res :=
 does_intro f145_ok func145 f145_body f145_tr f145_rs (by rw [f145_nt]; exact h)
def f146_r0:List MO:=[Qa (Qv 1) (MOp.ibox (Qn 0)),Qa (Qv 2) (Qd (Qo (Qp (Qq (Qs false)))))]
def f146_c0:MC:=.reg false f146_r0
def f146_r1:List MO:=[Qa (Qv 4) (MOp.mkF (Go.Fn.func 158) [(Qn 1)]),Qa (Qv 3) (Qd (Qn 4))]
def f146_c1:MC:=.reg false f146_r1
def f146_r2:List MO:=[Qa (Qv 5) (Qg 0 (Qn 1)),Qa (Qv 6) (Qg 5 (Qn 5)),Qa (Qv 7) (Qf 1 false (Qn 6)),Qa (Qv 8) (Qd (Qn 3)),Qa (Qv 9) (Qh 159 [(Qn 7),(Qn 8)]),Qa (Qv 10) (MOp.not (Qn 9)),Qa (Qv 2) (Qd (Qn 10))]
def f146_c2:MC:=.reg false f146_r2
def f146_c3:MC:=MC.ret
def f146_c4:MC:=.seq f146_c2 f146_c3
def f146_c5:MC:=.seq f146_c1 f146_c4
def f146_c6:MC:=.seq f146_c0 f146_c5
attribute [go_sem] f146_r0 f146_r1 f146_r2
noncomputable def f146_code : Code := (f146.body).getD .skip
theorem f146_body : f146.body = Qv f146_code := by kernel_rfl
theorem f146_tr : trC QP [1] f146_code = Qv f146_c6 := by kernel_rfl
theorem f146_rs : rsOf QP f146.results.toList = Qv [(RV.t 2)] := by kernel_rfl
theorem f146_nt : f146.ntmps = 11 := by kernel_rfl
theorem f146_ok : callable QP 146 = true := by kernel_rfl
theorem f146_in {gp : Heap} {args : List V} {res : V} (h : G ⟨QP,gp,0,[(RV.t 2)],fun r c => r = res /\ c = [],false⟩ [.code f146_c6,.fin] ⟨args ++ List.replicate (11 - args.length) .un,[]⟩) : Does QP gp 146 args res :=
 does_intro f146_ok func146 f146_body f146_tr f146_rs (by rw [f146_nt]; exact h)
def f147_r0:List MO:=[Qa (Qv 1) (MOp.ibox (Qn 0)),Qa (Qv 2) (Qd (Qo (Qp (Qq (Qs false)))))]
def f147_c0:MC:=.reg false f147_r0
def f147_r1:List MO:=[Qa (Qv 3) (Qd (Qo (Qp (Qq (D.fn (Go.Fn.func 160) [])))))]
def f147_c1:MC:=.reg false f147_r1
def f147_r2:List MO:=[Qa (Qv 4) (Qg 0 (Qn 1)),Qa (Qv 5) (Qg 4 (Qn 4)),Qa (Qv 6) (Qf 1 false (Qn 5)),Qa (Qv 7) (Qd (Qn 3)),Qa (Qv 8) (Qh 161 [(Qn 6),(Qn 7)]),Qa (Qv 9) (MOp.not (Qn 8)),Qa (Qv 10) (Qd (Qn 9)),Qb 10 true (Qv 11),Qa (Qv 11) (Qg 0 (Qn 1)),Qb 10 true (Qv 12),Qa (Qv 12) (Qg 4 (Qn 11)),Qb 10 true (Qv 13),Qa (Qv 13) (Qf 1 false (Qn 12)),Qb 10 true (Qv 14),Qa (Qv 14) (Qh 162 [(Qn 13)]),Qb 10 true (Qv 15),Qa (Qv 15) (MOp.not (Qn 14)),Qa (Qv 16) (Qm (Qn 10) (Qn 15) (Qo (Qp (Qq (Qs false))))),Qa (Qv 2) (Qd (Qn 16))]
def f147_c2:MC:=.reg false f147_r2
def f147_c3:MC:=MC.ret
def f147_c4:MC:=.seq f147_c2 f147_c3
def f147_c5:MC:=.seq f147_c1 f147_c4
def f147_c6:MC:=.seq f147_c0 f147_c5
attribute [go_sem] f147_r0 f147_r1 f147_r2
noncomputable def f147_code : Code := (f147.body).getD .skip
theorem f147_body : f147.body = Qv f147_code := by kernel_rfl
theorem f147_tr : trC QP [1] f147_code = Qv f147_c6 := by kernel_rfl
theorem f147_rs : rsOf QP f147.results.toList = Qv [(RV.t 2)] := by kernel_rfl
theorem f147_nt : f147.ntmps = 17 := by kernel_rfl
theorem f147_ok : callable QP 147 = true := by kernel_rfl
theorem f147_in {gp : Heap} {args : List V} {res : V} (h : G ⟨QP,gp,0,[(RV.t 2)],fun r c => r = res /\ c = [],false⟩ [.code f147_c6,.fin] ⟨args ++ List.replicate (17 - args.length) .un,[]⟩) : Does QP gp 147 args res :=
 does_intro f147_ok func147 f147_body f147_tr f147_rs (by rw [f147_nt]; exact h)
def f151_r0:List MO:=[Qa (Qv 2) (Qd (Qo (Qp (Qq (Qs false)))))]
def f151_c0:MC:=.reg false f151_r0
def f151_r1:List MO:=[Qa (Qv 7) (Qd (Qn 0)),Qa (Qv 8) (MOp.rng (Qn 7))]
def f151_c1:MC:=.reg false f151_r1
def f151_r2:List MO:=[Qa (Qv 9) (MOp.nxt (Qn 8)),Qa (Qv 10) (Qi (Qn 9) 0)]
def f151_c2:MC:=.reg false f151_r2
def f151_c3:MC:=MC.skip
def f151_c4:MC:=(MC.exit 0)
def f151_c5:MC:=.cond (Qn 10) f151_c3 f151_c4
def f151_r6:List MO:=[Qa (Qv 11) (Qi (Qn 9) 1),Qa (Qv 12) (Qi (Qn 9) 2),Qa (Qv 3) (Qd (Qn 11)),Qa (Qv 4) (Qd (Qn 12))]
def f151_c6:MC:=.reg false f151_r6
def f151_r7:List MO:=[Qa (Qv 14) (Qd (Qn 0)),Qa (Qv 15) (Qd (Qn 3)),Qa (Qv 16) (MOp.slcS (Qn 14) (Qv (Qn 15)) none),Qa (Qv 17) (Qh 165 [(Qn 16)]),Qa (Qv 13) (Qd (Qn 17)),Qa (Qv 18) (Qi (Qn 13) 0),Qa (Qv 19) (Qi (Qn 13) 1),Qa (Qv 5) (Qd (Qn 18)),Qa (Qv 6) (Qd (Qn 19))]
def f151_c7:MC:=.reg false f151_r7
def f151_r8:List MO:=[Qa (Qv 20) (Qd (Qn 4)),Qa (Qv 21) (Qe Qt Go.BinOp.eql (Qn 20) (Qo (Qp (Qq (Qr Go.IntKind.i32 65533))))),Qa (Qv 22) (Qd (Qn 21)),Qb 22 true (Qv 23),Qa (Qv 23) (Qd (Qn 6)),Qb 22 true (Qv 24),Qa (Qv 24) (Qe Qt Go.BinOp.eql (Qn 23) (Qo (Qp (Qq (Qr Qu 1))))),Qa (Qv 25) (Qm (Qn 22) (Qn 24) (Qo (Qp (Qq (Qs false)))))]
def f151_c8:MC:=.reg false f151_r8
def f151_r9:List MO:=[Qa (Qv 2) (Qd (Qo (Qp (Qq (Qs false)))))]
def f151_c9:MC:=.reg false f151_r9
def f151_c10:MC:=MC.ret
def f151_c11:MC:=.seq f151_c9 f151_c10
def f151_c12:MC:=MC.skip
def f151_c13:MC:=.cond (Qn 25) f151_c11 f151_c12
def f151_c14:MC:=.seq f151_c8 f151_c13
def f151_c15:MC:=.seq f151_c7 f151_c14
def f151_c16:MC:=.seq f151_c6 f151_c15
def f151_c17:MC:=.blk 1 f151_c16
def f151_c18:MC:=.seq f151_c5 f151_c17
def f151_c19:MC:=.seq f151_c2 f151_c18
def f151_c20:MC:=.loop f151_c19
def f151_c21:MC:=.blk 0 f151_c20
def f151_c22:MC:=.seq f151_c1 f151_c21
def f151_r23:List MO:=[Qa (Qv 2) (Qd (Qo (Qp (Qq (Qs true)))))]
def f151_c23:MC:=.reg false f151_r23
def f151_c24:MC:=MC.ret
def f151_c25:MC:=.seq f151_c23 f151_c24
def f151_c26:MC:=.seq f151_c22 f151_c25
def f151_c27:MC:=.seq f151_c0 f151_c26
attribute [go_sem] f151_r0 f151_r1 f151_r2 f151_r6 f151_r7 f151_r8 f151_r9 f151_r23
noncomputable def f151_code : Code := (f151.body).getD .skip
theorem f151_body : f151.body = Qv f151_code := by kernel_rfl
theorem f151_tr : trC QP [] f151_code = Qv f151_c27 := by kernel_rfl
theorem f151_rs : rsOf QP f151.results.toList = Qv [(RV.t 2)] := by kernel_rfl
theorem f151_nt : f151.ntmps = 26 := by kernel_rfl
theorem f151_ok : callable QP 151 = true := by kernel_rfl
theorem f151_in {gp : Heap} {args : List V} {res : V} (h : G ⟨QP,gp,0,[(RV.t 2)],fun r c => r = res /\ c = [],false⟩ [.code f151_c27,.fin] ⟨args ++ List.replicate (26 - args.length) .un,[]⟩) : Does QP gp 151 args res :=
 does_intro f151_ok func151 f151_body f151_tr f151_rs (by rw [f151_nt]; exact h)
def f157_r0:List MO:=[Qa (Qv 4) (Qd (Qo (Qp (Qq (Qs false)))))]
def f157_c0:MC:=.reg false f157_r0
def f157_r1:List MO:=[Qa (Qv 5) (Qd (Qn 0)),Qa (Qv 6) (Qd (Qn 1)),Qa (Qv 7) (Qh 177 [(Qn 5),(Qn 6)]),Qa (Qv 8) (Qe Qt Go.BinOp.geq (Qn 7) (Qo (Qp (Qq (Qr Qu 0))))),Qa (Qv 4) (Qd (Qn 8))]
def f157_c1:MC:=.reg false f157_r1
def f157_c2:MC:=MC.ret
def f157_c3:MC:=.seq f157_c1 f157_c2
def f157_c4:MC:=.seq f157_c0 f157_c3
attribute [go_sem] f157_r0 f157_r1
noncomputable def f157_code : Code := (f157.body).getD .skip
theorem f157_body : f157.body = Qv f157_code := by kernel_rfl
theorem f157_tr : trC QP [] f157_code = Qv f157_c4 := by kernel_rfl
theorem f157_rs : rsOf QP f157.results.toList = Qv [(RV.t 4)] := by kernel_rfl
theorem f157_nt : f157.ntmps = 9 := by kernel_rfl
theorem f157_ok : callable QP 157 = true := by kernel_rfl
theorem f157_in {gp : Heap} {args : List V} {res : V} (h : G ⟨QP,gp,0,[(RV.t 4)],fun r c => r = res /\ c = [],false⟩ [.code f157_c4,.fin] ⟨args ++ List.replicate (9 - args.length) .un,[]⟩) : Does QP gp 157 args res :=
 does_intro f157_ok func157 f157_body f157_tr f157_rs (by rw [f157_nt]; exact h)
def f158_r0:List MO:=[Qa (Qv 3) (Qd (Qo (Qp (Qq (Qs false)))))]
def f158_c0:MC:=.reg false f158_r0
def f158_r1:List MO:=[Qa (Qv 4) (Qd (Qn 0)),Qa (Qv 5) (Qe Qt Go.BinOp.lss (Qn 4) (Qo (Qp (Qq (Qr Qu 0))))),Qa (Qv 6) (Qd (Qn 5)),Qb 6 false (Qv 7),Qa (Qv 7) (Qd (Qn 0)),Qb 6 false (Qv 8),Qa (Qv 8) (Qg 6 (Qn 1)),Qb 6 false (Qv 9),Qa (Qv 9) (Qf 1 false (Qn 8)),Qb 6 false (Qv 10),Qa (Qv 10) (Qe Qt Go.BinOp.geq (Qn 7) (Qn 9)),Qa (Qv 11) (Qm (Qn 6) (Qo (Qp (Qq (Qs true)))) (Qn 10)),Qa (Qv 3) (Qd (Qn 11))]
def f158_c1:MC:=.reg false f158_r1
def f158_c2:MC:=MC.ret
def f158_c3:MC:=.seq f158_c1 f158_c2
def f158_c4:MC:=.seq f158_c0 f158_c3
attribute [go_sem] f158_r0 f158_r1
noncomputable def f158_code : Code := (f158.body).getD .skip
theorem f158_body : f158.body = Qv f158_code := by kernel_rfl
theorem f158_tr : trC QP [] f158_code = Qv f158_c4 := by kernel_rfl
theorem f158_rs : rsOf QP f158.results.toList = Qv [(RV.t 3)] := by kernel_rfl
theorem f158_nt : f158.ntmps = 12 := by kernel_rfl
theorem f158_ok : callable QP 158 = true := by kernel_rfl
theorem f158_in {gp : Heap} {args : List V} {res : V} (h : G ⟨QP,gp,0,[(RV.t 3)],fun r c => r = res /\ c = [],false⟩ [.code f158_c4,.fin] ⟨args ++ List.replicate (12 - args.length) .un,[]⟩) : Does QP gp 158 args res :=
 does_intro f158_ok func158 f158_body f158_tr f158_rs (by rw [f158_nt]; exact h)
def f159_r0:List MO:=[Qa (Qv 4) (Qd (Qo (Qp (Qq (Qs false)))))]
def f159_c0:MC:=.reg false f159_r0
def f159_r1:List MO:=[Qa (Qv 5) (Qd (Qn 0)),Qa (Qv 6) (Qd (Qn 1)),Qa (Qv 7) (Qh 178 [(Qn 5),(Qn 6)]),Qa (Qv 8) (Qe Qt Go.BinOp.geq (Qn 7) (Qo (Qp (Qq (Qr Qu 0))))),Qa (Qv 4) (Qd (Qn 8))]
def f159_c1:MC:=.reg false f159_r1
def f159_c2:MC:=MC.ret
def f159_c3:MC:=.seq f159_c1 f159_c2
def f159_c4:MC:=.seq f159_c0 f159_c3
attribute [go_sem] f159_r0 f159_r1
noncomputable def f159_code : Code := (f159.body).getD .skip
theorem f159_body : f159.body = Qv f159_code := by kernel_rfl
theorem f159_tr : trC QP [] f159_code = Qv f159_c4 := by kernel_rfl
theorem f159_rs : rsOf QP f159.results.toList = Qv [(RV.t 4)] := by kernel_rfl
theorem f159_nt : f159.ntmps = 9 := by kernel_rfl
theorem f159_ok : callable QP 159 = true := by kernel_rfl
theorem f159_in {gp : Heap} {args : List V} {res : V} (h : G ⟨QP,gp,0,[(RV.t 4)],fun r c => r = res /\ c = [],false⟩ [.code f159_c4,.fin] ⟨args ++ List.replicate (9 - args.length) .un,[]⟩) : Does QP gp 159 args res :=
 does_intro f159_ok func159 f159_body f159_tr f159_rs (by rw [f159_nt]; exact h)
def f160_r0:List MO:=[Qa (Qv 1) (MOp.ibox (Qn 0)),Qa (Qv 2) (Qd (Qo (Qp (Qq (Qs false)))))]
def f160_c0:MC:=.reg false f160_r0
def f160_r1:List MO:=[Qa (Qv 3) (Qf 3 true (Qn 1)),Qa (Qv 4) (Qh 131 [(Qn 3)]),Qa (Qv 5) (MOp.not (Qn 4)),Qa (Qv 2) (Qd (Qn 5))]
def f160_c1:MC:=.reg false f160_r1
def f160_c2:MC:=MC.ret
def f160_c3:MC:=.seq f160_c1 f160_c2
def f160_c4:MC:=.seq f160_c0 f160_c3
attribute [go_sem] f160_r0 f160_r1
noncomputable def f160_code : Code := (f160.body).getD .skip
theorem f160_body : f160.body = Qv f160_code := by kernel_rfl
theorem f160_tr : trC QP [1] f160_code = Qv f160_c4 := by kernel_rfl
theorem f160_rs : rsOf QP f160.results.toList = Qv [(RV.t 2)] := by kernel_rfl
theorem f160_nt : f160.ntmps = 6 := by kernel_rfl
theorem f160_ok : callable QP 160 = true := by kernel_rfl
theorem f160_in {gp : Heap} {args : List V} {res : V} (h : G ⟨QP,gp,0,[(RV.t 2)],fun r c => r = res /\ c = [],false⟩ [.code f160_c4,.fin] ⟨args ++ List.replicate (6 - args.length) .un,[]⟩) : Does QP gp 160 args res :=
 does_intro f160_ok func160 f160_body f160_tr f160_rs (by rw [f160_nt]; exact h)
def f161_r0:List MO:=[Qa (Qv 4) (Qd (Qo (Qp (Qq (Qs false)))))]
def f161_c0:MC:=.reg false f161_r0
def f161_r1:List MO:=[Qa (Qv 5) (Qd (Qn 0)),Qa (Qv 6) (Qd (Qn 1)),Qa (Qv 7) (Qh 179 [(Qn 5),(Qn 6)]),Qa (Qv 8) (Qe Qt Go.BinOp.geq (Qn 7) (Qo (Qp (Qq (Qr Qu 0))))),Qa (Qv 4) (Qd (Qn 8))]
def f161_c1:MC:=.reg false f161_r1
def f161_c2:MC:=MC.ret
def f161_c3:MC:=.seq f161_c1 f161_c2
def f161_c4:MC:=.seq f161_c0 f161_c3
attribute [go_sem] f161_r0 f161_r1
noncomputable def f161_code : Code := (f161.body).getD .skip
theorem f161_body : f161.body = Qv f161_code := by kernel_rfl
theorem f161_tr : trC QP [] f161_code = Qv f161_c4 := by kernel_rfl
theorem f161_rs : rsOf QP f161.results.toList = Qv [(RV.t 4)] := by kernel_rfl
theorem f161_nt : f161.ntmps = 9 := by kernel_rfl
theorem f161_ok : callable QP 161 = true := by kernel_rfl
theorem f161_in {gp : Heap} {args : List V} {res : V} (h : G ⟨QP,gp,0,[(RV.t 4)],fun r c => r = res /\ c = [],false⟩ [.code f161_c4,.fin] ⟨args ++ List.replicate (9 - args.length) .un,[]⟩) : Does QP gp 161 args res :=
 does_intro f161_ok func161 f161_body f161_tr f161_rs (by rw [f161_nt]; exact h)
def f162_r0:List MO:=[Qa (Qv 2) (Qd (Qo (Qp (Qq (Qs false)))))]
def f162_c0:MC:=.reg false f162_r0
def f162_r1:List MO:=[Qa (Qv 3) (MOp.alloc [(Qr Qu 0)]),Qa none (Ql 1 (Qn 3) (Qo (Qp (Qq (Qr Qu 0)))))]
def f162_c1:MC:=.reg false f162_r1
def f162_r2:List MO:=[Qa (Qv 4) (Qd (Qn 0)),Qa (Qv 5) (Qh 180 [(Qn 4)])]
def f162_c2:MC:=.reg false f162_r2
def f162_c3:MC:=MC.skip
def f162_r4:List MO:=[Qa (Qv 7) (Qf 1 false (Qn 3)),Qa (Qv 8) (Qe Qt Go.BinOp.add (Qn 7) (Qo (Qp (Qq (Qr Qu 1))))),Qa none (Ql 1 (Qn 3) (Qn 8))]
def f162_c4:MC:=.reg false f162_r4
def f162_c5:MC:=.blk 1 f162_c4
def f162_c6:MC:=.rf (Qn 5) [6] f162_c3 f162_c5
def f162_c7:MC:=.blk 0 f162_c6
def f162_c8:MC:=.seq f162_c2 f162_c7
def f162_r9:List MO:=[Qa (Qv 9) (Qf 1 false (Qn 3)),Qa (Qv 10) (Qd (Qn 0)),Qa (Qv 11) (Qk Qt (Qn 10)),Qa (Qv 12) (Qe Qt Go.BinOp.lss (Qn 9) (Qn 11)),Qa (Qv 2) (Qd (Qn 12))]
def f162_c9:MC:=.reg false f162_r9
def f162_c10:MC:=MC.ret
def f162_c11:MC:=.seq f162_c9 f162_c10
def f162_c12:MC:=.seq f162_c8 f162_c11
def f162_c13:MC:=.seq f162_c1 f162_c12
def f162_c14:MC:=.seq f162_c0 f162_c13
attribute [go_sem] f162_r0 f162_r1 f162_r2 f162_r4 f162_r9
noncomputable def f162_code : Code := (f162.body).getD .skip
theorem f162_body : f162.body = Qv f162_code := by kernel_rfl
theorem f162_tr : trC QP [] f162_code = Qv f162_c14 := by kernel_rfl
theorem f162_rs : rsOf QP f162.results.toList = Qv [(RV.t 2)] := by kernel_rfl
theorem f162_nt : f162.ntmps = 13 := by kernel_rfl
theorem f162_ok : callable QP 162 = true := by kernel_rfl
theorem f162_in {gp : Heap} {args : List V} {res : V} (h : G ⟨QP,gp,0,[(RV.t 2)],fun r c => r = res /\ c = [],false⟩ [.code f162_c14,.fin] ⟨args ++ List.replicate (13 - args.length) .un,[]⟩) : Does QP gp 162 args res :=
 does_intro f162_ok func162 f162_body f162_tr f162_rs (by rw [f162_nt]; exact h)
def f177_r0:List MO:=[Qa (Qv 4) (Qd (Qo (Qp (Qq (Qr Qu 0)))))]
def f177_c0:MC:=.reg false f177_r0
def f177_r1:List MO:=[Qa (Qv 6) (Qd (Qn 0)),Qa (Qv 7) (Qk Qt (Qn 6)),Qa (Qv 8) (Qd (Qo (Qp (Qq (Qr Qu 0)))))]
def f177_c1:MC:=.reg false f177_r1
def f177_r2:List MO:=[Qa (Qv 9) (Qe Qt Go.BinOp.lss (Qn 8) (Qn 7))]
def f177_c2:MC:=.reg false f177_r2
def f177_c3:MC:=MC.skip
def f177_c4:MC:=(MC.exit 0)
def f177_c5:MC:=.cond (Qn 9) f177_c3 f177_c4
def f177_r6:List MO:=[Qa (Qv 10) (Qd (Qn 8)),Qa (Qv 5) (Qd (Qn 10))]
def f177_c6:MC:=.reg false f177_r6
def f177_r7:List MO:=[Qa (Qv 11) (Qd (Qn 1)),Qa (Qv 12) (Qd (Qn 0)),Qa (Qv 13) (Qd (Qn 5)),Qa (Qv 14) (Qj 1 (Qn 12) (Qn 13)),Qa (Qv 15) (Qf 1 false (Qn 14)),Qa (Qv 16) (Qe Leaf.b Go.BinOp.eql (Qn 11) (Qn 15))]
def f177_c7:MC:=.reg false f177_r7
def f177_r8:List MO:=[Qa (Qv 17) (Qd (Qn 5)),Qa (Qv 4) (Qd (Qn 17))]
def f177_c8:MC:=.reg false f177_r8
def f177_c9:MC:=MC.ret
def f177_c10:MC:=.seq f177_c8 f177_c9
def f177_c11:MC:=MC.skip
def f177_c12:MC:=.cond (Qn 16) f177_c10 f177_c11
def f177_c13:MC:=.seq f177_c7 f177_c12
def f177_c14:MC:=.seq f177_c6 f177_c13
def f177_c15:MC:=.blk 1 f177_c14
def f177_r16:List MO:=[Qa (Qv 18) (Qe Qt Go.BinOp.add (Qn 8) (Qo (Qp (Qq (Qr Qu 1))))),Qa (Qv 8) (Qd (Qn 18))]
def f177_c16:MC:=.reg false f177_r16
def f177_c17:MC:=.seq f177_c15 f177_c16
def f177_c18:MC:=.seq f177_c5 f177_c17
def f177_c19:MC:=.seq f177_c2 f177_c18
def f177_c20:MC:=.loop f177_c19
def f177_c21:MC:=.blk 0 f177_c20
def f177_c22:MC:=.seq f177_c1 f177_c21
def f177_r23:List MO:=[Qa (Qv 4) (Qd (Qo (Qp (Qq (Qr Qu (-1))))))]
def f177_c23:MC:=.reg false f177_r23
def f177_c24:MC:=MC.ret
def f177_c25:MC:=.seq f177_c23 f177_c24
def f177_c26:MC:=.seq f177_c22 f177_c25
def f177_c27:MC:=.seq f177_c0 f177_c26
attribute [go_sem] f177_r0 f177_r1 f177_r2 f177_r6 f177_r7 f177_r8 f177_r16 f177_r23
noncomputable def f177_code : Code := (f177.body).getD .skip
theorem f177_body : f177.body = Qv f177_code := by kernel_rfl
theorem f177_tr : trC QP [] f177_code = Qv f177_c27 := by kernel_rfl
theorem f177_rs : rsOf QP f177.results.toList = Qv [(RV.t 4)] := by kernel_rfl
theorem f177_nt : f177.ntmps = 19 := by kernel_rfl
theorem f177_ok : callable QP 177 = true := by kernel_rfl
theorem f177_in {gp : Heap} {args : List V} {res : V} (h : G ⟨QP,gp,0,[(RV.t 4)],fun r c => r = res /\ c = [],false⟩ [.code f177_c27,.fin] ⟨args ++ List.replicate (19 - args.length) .un,[]⟩) : Does QP gp 177 args res :=
 does_intro f177_ok func177 f177_body f177_tr f177_rs (by rw [f177_nt]; exact h)
def f178_r0:List MO:=[Qa (Qv 4) (Qd (Qo (Qp (Qq (Qr Qu 0)))))]
def f178_c0:MC:=.reg false f178_r0
def f178_r1:List MO:=[Qa (Qv 6) (Qd (Qn 0)),Qa (Qv 7) (Qk Qt (Qn 6)),Qa (Qv 8) (Qd (Qo (Qp (Qq (Qr Qu 0)))))]
def f178_c1:MC:=.reg false f178_r1
def f178_r2:List MO:=[Qa (Qv 9) (Qe Qt Go.BinOp.lss (Qn 8) (Qn 7))]
def f178_c2:MC:=.reg false f178_r2
def f178_c3:MC:=MC.skip
def f178_c4:MC:=(MC.exit 0)
def f178_c5:MC:=.cond (Qn 9) f178_c3 f178_c4
def f178_r6:List MO:=[Qa (Qv 10) (Qd (Qn 8)),Qa (Qv 5) (Qd (Qn 10))]
def f178_c6:MC:=.reg false f178_r6
def f178_r7:List MO:=[Qa (Qv 11) (Qd (Qn 1)),Qa (Qv 12) (Qd (Qn 0)),Qa (Qv 13) (Qd (Qn 5)),Qa (Qv 14) (Qj 1 (Qn 12) (Qn 13)),Qa (Qv 15) (Qf 1 false (Qn 14)),Qa (Qv 16) (MOp.callv (Qn 11) [(Qn 15)])]
def f178_c7:MC:=.reg false f178_r7
def f178_r8:List MO:=[Qa (Qv 17) (Qd (Qn 5)),Qa (Qv 4) (Qd (Qn 17))]
def f178_c8:MC:=.reg false f178_r8
def f178_c9:MC:=MC.ret
def f178_c10:MC:=.seq f178_c8 f178_c9
def f178_c11:MC:=MC.skip
def f178_c12:MC:=.cond (Qn 16) f178_c10 f178_c11
def f178_c13:MC:=.seq f178_c7 f178_c12
def f178_c14:MC:=.seq f178_c6 f178_c13
def f178_c15:MC:=.blk 1 f178_c14
def f178_r16:List MO:=[Qa (Qv 18) (Qe Qt Go.BinOp.add (Qn 8) (Qo (Qp (Qq (Qr Qu 1))))),Qa (Qv 8) (Qd (Qn 18))]
def f178_c16:MC:=.reg false f178_r16
def f178_c17:MC:=.seq f178_c15 f178_c16
def f178_c18:MC:=.seq f178_c5 f178_c17
def f178_c19:MC:=.seq f178_c2 f178_c18
def f178_c20:MC:=.loop f178_c19
def f178_c21:MC:=.blk 0 f178_c20
def f178_c22:MC:=.seq f178_c1 f178_c21
def f178_r23:List MO:=[Qa (Qv 4) (Qd (Qo (Qp (Qq (Qr Qu (-1))))))]
def f178_c23:MC:=.reg false f178_r23
def f178_c24:MC:=MC.ret
def f178_c25:MC:=.seq f178_c23 f178_c24
def f178_c26:MC:=.seq f178_c22 f178_c25
def f178_c27:MC:=.seq f178_c0 f178_c26
attribute [go_sem] f178_r0 f178_r1 f178_r2 f178_r6 f178_r7 f178_r8 f178_r16 f178_r23
noncomputable def f178_code : Code := (f178.body).getD .skip
theorem f178_body : f178.body = Qv f178_code := by kernel_rfl
theorem f178_tr : trC QP [] f178_code = Qv f178_c27 := by kernel_rfl
theorem f178_rs : rsOf QP f178.results.toList = Qv [(RV.t 4)] := by kernel_rfl
theorem f178_nt : f178.ntmps = 19 := by kernel_rfl
theorem f178_ok : callable QP 178 = true := by kernel_rfl
theorem f178_in {gp : Heap} {args : List V} {res : V} (h : G ⟨QP,gp,0,[(RV.t 4)],fun r c => r = res /\ c = [],false⟩ [.code f178_c27,.fin] ⟨args ++ List.replicate (19 - args.length) .un,[]⟩) : Does QP gp 178 args res :=
 does_intro f178_ok func178 f178_body f178_tr f178_rs (by rw [f178_nt]; exact h)
def f179_r0:List MO:=[Qa (Qv 4) (Qd (Qo (Qp (Qq (Qr Qu 0)))))]
def f179_c0:MC:=.reg false f179_r0
def f179_r1:List MO:=[Qa (Qv 6) (Qd (Qn 0)),Qa (Qv 7) (Qk Qt (Qn 6)),Qa (Qv 8) (Qd (Qo (Qp (Qq (Qr Qu 0)))))]
def f179_c1:MC:=.reg false f179_r1
def f179_r2:List MO:=[Qa (Qv 9) (Qe Qt Go.BinOp.lss (Qn 8) (Qn 7))]
def f179_c2:MC:=.reg false f179_r2
def f179_c3:MC:=MC.skip
def f179_c4:MC:=(MC.exit 0)
def f179_c5:MC:=.cond (Qn 9) f179_c3 f179_c4
def f179_r6:List MO:=[Qa (Qv 10) (Qd (Qn 8)),Qa (Qv 5) (Qd (Qn 10))]
def f179_c6:MC:=.reg false f179_r6
def f179_r7:List MO:=[Qa (Qv 11) (Qd (Qn 1)),Qa (Qv 12) (Qd (Qn 0)),Qa (Qv 13) (Qd (Qn 5)),Qa (Qv 14) (Qj 3 (Qn 12) (Qn 13)),Qa (Qv 15) (Qf 3 true (Qn 14)),Qa (Qv 16) (MOp.callv (Qn 11) [(Qn 15)])]
def f179_c7:MC:=.reg false f179_r7
def f179_r8:List MO:=[Qa (Qv 17) (Qd (Qn 5)),Qa (Qv 4) (Qd (Qn 17))]
def f179_c8:MC:=.reg false f179_r8
def f179_c9:MC:=MC.ret
def f179_c10:MC:=.seq f179_c8 f179_c9
def f179_c11:MC:=MC.skip
def f179_c12:MC:=.cond (Qn 16) f179_c10 f179_c11
def f179_c13:MC:=.seq f179_c7 f179_c12
def f179_c14:MC:=.seq f179_c6 f179_c13
def f179_c15:MC:=.blk 1 f179_c14
def f179_r16:List MO:=[Qa (Qv 18) (Qe Qt Go.BinOp.add (Qn 8) (Qo (Qp (Qq (Qr Qu 1))))),Qa (Qv 8) (Qd (Qn 18))]
def f179_c16:MC:=.reg false f179_r16
def f179_c17:MC:=.seq f179_c15 f179_c16
def f179_c18:MC:=.seq f179_c5 f179_c17
def f179_c19:MC:=.seq f179_c2 f179_c18
def f179_c20:MC:=.loop f179_c19
def f179_c21:MC:=.blk 0 f179_c20
def f179_c22:MC:=.seq f179_c1 f179_c21
def f179_r23:List MO:=[Qa (Qv 4) (Qd (Qo (Qp (Qq (Qr Qu (-1))))))]
def f179_c23:MC:=.reg false f179_r23
def f179_c24:MC:=MC.ret
def f179_c25:MC:=.seq f179_c23 f179_c24
def f179_c26:MC:=.seq f179_c22 f179_c25
def f179_c27:MC:=.seq f179_c0 f179_c26
attribute [go_sem] f179_r0 f179_r1 f179_r2 f179_r6 f179_r7 f179_r8 f179_r16 f179_r23
noncomputable def f179_code : Code := (f179.body).getD .skip
theorem f179_body : f179.body = Qv f179_code := by kernel_rfl
theorem f179_tr : trC QP [] f179_code = Qv f179_c27 := by kernel_rfl
theorem f179_rs : rsOf QP f179.results.toList = Qv [(RV.t 4)] := by kernel_rfl
theorem f179_nt : f179.ntmps = 19 := by kernel_rfl
theorem f179_ok : callable QP 179 = true := by kernel_rfl
theorem f179_in {gp : Heap} {args : List V} {res : V} (h : G ⟨QP,gp,0,[(RV.t 4)],fun r c => r = res /\ c = [],false⟩ [.code f179_c27,.fin] ⟨args ++ List.replicate (19 - args.length) .un,[]⟩) : Does QP gp 179 args res :=
 does_intro f179_ok func179 f179_body f179_tr f179_rs (by rw [f179_nt]; exact h)
def f180_r0:List MO:=[Qa (Qv 1) (MOp.ibox (Qn 0)),Qa (Qv 2) (Qd (Qo (Qp (Qq D.nilF))))]
def f180_c0:MC:=.reg false f180_r0
def f180_r1:List MO:=[Qa (Qv 3) (MOp.mkF (Go.Fn.func 190) [(Qn 1)]),Qa (Qv 2) (Qd (Qn 3))]
def f180_c1:MC:=.reg false f180_r1
def f180_c2:MC:=MC.ret
def f180_c3:MC:=.seq f180_c1 f180_c2
def f180_c4:MC:=.seq f180_c0 f180_c3
attribute [go_sem] f180_r0 f180_r1
noncomputable def f180_code : Code := (f180.body).getD .skip
theorem f180_body : f180.body = Qv f180_code := by kernel_rfl
theorem f180_tr : trC QP [1] f180_code = Qv f180_c4 := by kernel_rfl
theorem f180_rs : rsOf QP f180.results.toList = Qv [(RV.t 2)] := by kernel_rfl
theorem f180_nt : f180.ntmps = 4 := by kernel_rfl
theorem f180_ok : callable QP 180 = true := by kernel_rfl
theorem f180_in {gp : Heap} {args : List V} {res : V} (h : G ⟨QP,gp,0,[(RV.t 2)],fun r c => r = res /\ c = [],false⟩ [.code f180_c4,.fin] ⟨args ++ List.replicate (4 - args.length) .un,[]⟩) : Does QP gp 180 args res :=
 does_intro f180_ok func180 f180_body f180_tr f180_rs (by rw [f180_nt]; exact h)
def f190_r0:List MO:=[Qa (Qv 6) MOp.mkM,Qa (Qv 3) (Qd (Qn 6))]
def f190_c0:MC:=.reg false f190_r0
def f190_c1:MC:=MC.skip
def f190_r2:List MO:=[Qa (Qv 7) (Qf 1 false (Qn 1)),Qa (Qv 8) (Qk Qt (Qn 7)),Qa (Qv 9) (Qd (Qo (Qp (Qq (Qr Qu 0)))))]
def f190_c2:MC:=.reg false f190_r2
def f190_r3:List MO:=[Qa (Qv 10) (Qe Qt Go.BinOp.lss (Qn 9) (Qn 8))]
def f190_c3:MC:=.reg false f190_r3
def f190_c4:MC:=MC.skip
def f190_c5:MC:=(MC.exit 0)
def f190_c6:MC:=.cond (Qn 10) f190_c4 f190_c5
def f190_r7:List MO:=[Qa (Qv 11) (Qj 3 (Qn 7) (Qn 9)),Qa (Qv 12) (Qf 3 true (Qn 11)),Qa (Qv 5) (MOp.alloc [(Qr Qu 0),(Qr Qu 0),(D.str (ByteArray.mk #[]))]),Qa none (Ql 3 (Qn 5) (Qn 12))]
def f190_c7:MC:=.reg false f190_r7
def f190_r8:List MO:=[Qa (Qv 13) (Qd (Qn 3)),Qa (Qv 14) (Qf 3 true (Qn 5)),Qa (Qv 15) (MOp.lkp false (Qp (Qq (Qs false))) true [Qt,Qt,Leaf.s] (Qn 13) (Qn 14)),Qa (Qv 16) (Qd (Qn 15)),Qb 16 false (Qv 17),Qa (Qv 17) (Qd (Qn 0)),Qb 16 false (Qv 18),Qa (Qv 18) (Qf 3 true (Qn 5)),Qb 16 false (Qv 19),Qa (Qv 19) (MOp.callv (Qn 17) [(Qn 18)]),Qb 16 false (Qv 20),Qa (Qv 20) (MOp.not (Qn 19)),Qa (Qv 21) (Qm (Qn 16) (Qo (Qp (Qq (Qs true)))) (Qn 20))]
def f190_c8:MC:=.reg false f190_r8
def f190_c9:MC:=(MC.exit 0)
def f190_c10:MC:=MC.skip
def f190_c11:MC:=.cond (Qn 21) f190_c9 f190_c10
def f190_c12:MC:=.seq f190_c8 f190_c11
def f190_r13:List MO:=[Qa (Qv 22) (Qd (Qn 3)),Qa (Qv 23) (Qf 3 true (Qn 5)),Qa none (MOp.mupd true [Qt,Qt,Leaf.s] (Qn 22) (Qn 23) (Qo (Qp (Qq (Qs true)))))]
def f190_c13:MC:=.reg false f190_r13
def f190_c14:MC:=.seq f190_c12 f190_c13
def f190_c15:MC:=.seq f190_c7 f190_c14
def f190_c16:MC:=.blk 1 f190_c15
def f190_r17:List MO:=[Qa (Qv 24) (Qe Qt Go.BinOp.add (Qn 9) (Qo (Qp (Qq (Qr Qu 1))))),Qa (Qv 9) (Qd (Qn 24))]
def f190_c17:MC:=.reg false f190_r17
def f190_c18:MC:=.seq f190_c16 f190_c17
def f190_c19:MC:=.seq f190_c6 f190_c18
def f190_c20:MC:=.seq f190_c3 f190_c19
def f190_c21:MC:=.loop f190_c20
def f190_c22:MC:=.blk 0 f190_c21
def f190_c23:MC:=.seq f190_c2 f190_c22
def f190_c24:MC:=.seq f190_c1 f190_c23
def f190_c25:MC:=.seq f190_c0 f190_c24
def f190_c26:MC:=.scope f190_c25
attribute [go_sem] f190_r0 f190_r2 f190_r3 f190_r7 f190_r8 f190_r13 f190_r17
noncomputable def f190_code : Code := (f190.body).getD .skip
theorem f190_body : f190.body = Qv f190_code := by kernel_rfl
theorem f190_tr : trC QP [] f190_code = Qv f190_c26 := by kernel_rfl
theorem f190_rs : rsOf QP f190.results.toList = Qv [] := by kernel_rfl
theorem f190_nt : f190.ntmps = 25 := by kernel_rfl
theorem f190_ok : callable QP 190 = true := by kernel_rfl
theorem f190_tri {gp : Heap} {args : List V} {pre : List Ch} {R : V -> List Ch -> Prop} (h : G ⟨QP,gp,pre.length,[],R,false⟩ [.code f190_c26,.fin] ⟨args ++ List.replicate (25 - args.length) .un,pre⟩) : Tri QP gp 190 args pre R :=
 tri_intro func190 f190_body f190_tr f190_rs (by rw [f190_nt]; exact h)
end Go.Fw.L07
