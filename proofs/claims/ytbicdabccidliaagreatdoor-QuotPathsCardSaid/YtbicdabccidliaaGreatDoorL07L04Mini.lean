/- Small codes. -/
import Derived.Test.YtbicdabccidliaaGreatDoorFd
import Derived.Test.YtbicdabccidliaaGreatDoorProg
set_option linter.all false
namespace Go.Fw.L07
open Go Go.Fw
open Go.Proofs.Tryz renaming prog -> QP
open Go.Proofs.Tryz (f104 f105 f132 f133 f134 f135 f152 f153 f166 f167 f168 f169 f170 f171 f184 f191 func104 func105 func132 func133 func134 func135 func152 func153 func166 func167 func168 func169 func170 func171 func184 func191)
open Go.Fw.MO renaming op -> Qa,chk -> Qb,opx -> Qc
open Go.Fw.MOp renaming mv -> Qd,bin -> Qe,load -> Qf,fad -> Qg,call -> Qh,ext -> Qi,iad -> Qj,len -> Qk,store -> Ql,pick -> Qm
open Go.Fw.Opd renaming t -> Qn,c -> Qo
open Go.Fw.V renaming one -> Qp
open Go.Fw.A renaming d -> Qq
open Go.Fw.D renaming int -> Qr,bool -> Qs
open Go.Fw.Leaf renaming i -> Qt
open Go.IntKind renaming i64 -> Qu
open Option renaming some -> Qv
def f104_r0:List MO:=[Qa (Qv 1) (MOp.ibox (Qn 0)),Qa (Qv 2) (Qd (Qo (Qp (Qq (D.str (ByteArray.mk #[])))))),Qa (Qv 3) (Qd (Qo (Qp (Qq (Qr Qu 0)))))]
def f104_c0:MC:=.reg false f104_r0
def f104_r1:List MO:=[Qa (Qv 6) (Qf 3 true (Qn 1)),Qa (Qv 7) (Qh 131 [(Qn 6)]),Qa (Qv 8) (MOp.not (Qn 7))]
def f104_c1:MC:=.reg false f104_r1
def f104_r2:List MO:=[Qa (Qv 2) (Qd (Qo (Qp (Qq (D.str (ByteArray.mk #[])))))),Qa (Qv 3) (Qd (Qo (Qp (Qq (Qr Qu 60)))))]
def f104_c2:MC:=.reg false f104_r2
def f104_c3:MC:=MC.ret
def f104_c4:MC:=.seq f104_c2 f104_c3
def f104_c5:MC:=MC.skip
def f104_c6:MC:=.cond (Qn 8) f104_c4 f104_c5
def f104_c7:MC:=.seq f104_c1 f104_c6
def f104_r8:List MO:=[Qa (Qv 9) (Qf 3 true (Qn 1)),Qa (Qv 10) (MOp.build [(Qr Qu 0),(Qr Qu 0),(D.str (ByteArray.mk #[]))] [(0,(3,(Qn 9)))]),Qa (Qv 4) (MOp.alloc [(Qr Qu 0),(Qr Qu 0),(D.str (ByteArray.mk #[]))]),Qa none (Ql 3 (Qn 4) (Qn 10))]
def f104_c8:MC:=.reg false f104_r8
def f104_r9:List MO:=[Qa (Qv 11) (Qf 3 true (Qn 4)),Qa (Qv 12) (MOp.mkMv (Go.Fn.func 132) (Qn 11)),Qa (Qv 13) (Qf 3 true (Qn 4)),Qa (Qv 14) (MOp.mkMv (Go.Fn.func 133) (Qn 13)),Qa (Qv 15) (Qf 3 true (Qn 4)),Qa (Qv 16) (MOp.mkMv (Go.Fn.func 134) (Qn 15)),Qa (Qv 17) (Qf 3 true (Qn 4)),Qa (Qv 18) (MOp.mkMv (Go.Fn.func 135) (Qn 17)),Qa (Qv 19) (MOp.build [D.nilF,D.nilF,D.nilF,D.nilF] [(0,(1,(Qn 12))),(1,(1,(Qn 14))),(2,(1,(Qn 16))),(3,(1,(Qn 18)))]),Qa (Qv 5) (MOp.alloc [D.nilF,D.nilF,D.nilF,D.nilF]),Qa none (Ql 4 (Qn 5) (Qn 19))]
def f104_c9:MC:=.reg false f104_r9
def f104_r10:List MO:=[Qa (Qv 20) (Qg 0 (Qn 1)),Qa (Qv 21) (Qf 1 false (Qn 20)),Qa (Qv 22) (MOp.iadA 4 1 (Qn 5) (Qn 21)),Qa (Qv 23) (Qf 1 false (Qn 22)),Qa (Qv 24) (MOp.callv (Qn 23) []),Qa (Qv 2) (Qd (Qn 24)),Qa (Qv 3) (Qd (Qo (Qp (Qq (Qr Qu 0)))))]
def f104_c10:MC:=.reg false f104_r10
def f104_c11:MC:=MC.ret
def f104_c12:MC:=.seq f104_c10 f104_c11
def f104_c13:MC:=.seq f104_c9 f104_c12
def f104_c14:MC:=.seq f104_c8 f104_c13
def f104_c15:MC:=.seq f104_c7 f104_c14
def f104_c16:MC:=.seq f104_c0 f104_c15
attribute [go_sem] f104_r0 f104_r1 f104_r2 f104_r8 f104_r9 f104_r10
noncomputable def f104_code : Code := (f104.body).getD .skip
theorem f104_body : f104.body = Qv f104_code := by kernel_rfl
theorem f104_tr : trC QP [1] f104_code = Qv f104_c16 := by kernel_rfl
theorem f104_rs : rsOf QP f104.results.toList = Qv [(RV.t 2),(RV.t 3)] := by kernel_rfl
theorem f104_nt : f104.ntmps = 25 := by kernel_rfl
theorem f104_ok : callable QP 104 = true := by kernel_rfl
theorem f104_in {gp : Heap} {args : List V} {res : V} (h : G ⟨QP,gp,0,[(RV.t 2),(RV.t 3)],fun r c => r = res /\ c = [],false⟩ [.code f104_c16,.fin] ⟨args ++ List.replicate (25 - args.length) .un,[]⟩) : Does QP gp 104 args res :=
 does_intro f104_ok func104 f104_body f104_tr f104_rs (by rw [f104_nt]; exact h)
def f105_r0:List MO:=[Qa (Qv 4) (Qd (Qo (Qp (Qq (Qr Qu 0))))),Qa (Qv 5) (Qd (Qo (Qp (Qq D.nilI))))]
def f105_c0:MC:=.reg false f105_r0
def f105_r1:List MO:=[Qa (Qv 6) (Qd (Qn 0)),Qa (Qv 7) (Qh 136 [(Qn 6)])]
def f105_c1:MC:=.reg false f105_r1
def f105_r2:List MO:=[Qa (Qv 8) (Qd (Qn 0)),Qa (Qv 9) (Qd (Qn 0)),Qa (Qv 10) (MOp.nck (Qn 9)),Qa (Qv 11) (Qg 1 (Qn 10)),Qa (Qv 12) (Qf 1 false (Qn 11)),Qa (Qv 13) (Qd (Qn 1)),Qa (Qv 14) (MOp.appS 5 (Qn 12) (Qn 13)),Qa (Qv 15) (MOp.nck (Qn 8)),Qa (Qv 16) (Qg 1 (Qn 15)),Qa none (Ql 1 (Qn 16) (Qn 14))]
def f105_c2:MC:=.reg false f105_r2
def f105_r3:List MO:=[Qa (Qv 17) (Qd (Qn 1)),Qa (Qv 18) (Qk Leaf.s (Qn 17)),Qa (Qv 4) (Qd (Qn 18)),Qa (Qv 5) (Qd (Qo (Qp (Qq D.nilI))))]
def f105_c3:MC:=.reg false f105_r3
def f105_c4:MC:=MC.ret
def f105_c5:MC:=.seq f105_c3 f105_c4
def f105_c6:MC:=.seq f105_c2 f105_c5
def f105_c7:MC:=.seq f105_c1 f105_c6
def f105_c8:MC:=.seq f105_c0 f105_c7
attribute [go_sem] f105_r0 f105_r1 f105_r2 f105_r3
noncomputable def f105_code : Code := (f105.body).getD .skip
theorem f105_body : f105.body = Qv f105_code := by kernel_rfl
theorem f105_tr : trC QP [] f105_code = Qv f105_c8 := by kernel_rfl
theorem f105_rs : rsOf QP f105.results.toList = Qv [(RV.t 4),(RV.t 5)] := by kernel_rfl
theorem f105_nt : f105.ntmps = 19 := by kernel_rfl
theorem f105_ok : callable QP 105 = true := by kernel_rfl
theorem f105_tri {gp : Heap} {args : List V} {pre : List Ch} {R : V -> List Ch -> Prop} (h : G ⟨QP,gp,pre.length,[(RV.t 4),(RV.t 5)],R,false⟩ [.code f105_c8,.fin] ⟨args ++ List.replicate (19 - args.length) .un,pre⟩) : Tri QP gp 105 args pre R :=
 tri_intro func105 f105_body f105_tr f105_rs (by rw [f105_nt]; exact h)
-- f106: trC none
def f132_r0:List MO:=[Qa (Qv 1) (MOp.ibox (Qn 0)),Qa (Qv 2) (Qd (Qo (Qp (Qq (D.str (ByteArray.mk #[]))))))]
def f132_c0:MC:=.reg false f132_r0
def f132_r1:List MO:=[Qa (Qv 2) (Qd (Qo (Qp (Qq (D.str (ByteArray.mk #[110,117,108,108]))))))]
def f132_c1:MC:=.reg false f132_r1
def f132_c2:MC:=MC.ret
def f132_c3:MC:=.seq f132_c1 f132_c2
def f132_c4:MC:=.seq f132_c0 f132_c3
attribute [go_sem] f132_r0 f132_r1
noncomputable def f132_code : Code := (f132.body).getD .skip
theorem f132_body : f132.body = Qv f132_code := by kernel_rfl
theorem f132_tr : trC QP [1] f132_code = Qv f132_c4 := by kernel_rfl
theorem f132_rs : rsOf QP f132.results.toList = Qv [(RV.t 2)] := by kernel_rfl
theorem f132_nt : f132.ntmps = 3 := by kernel_rfl
theorem f132_ok : callable QP 132 = true := by kernel_rfl
theorem f132_in {gp : Heap} {args : List V} {res : V} (h : G ⟨QP,gp,0,[(RV.t 2)],fun r c => r = res /\ c = [],false⟩ [.code f132_c4,.fin] ⟨args ++ List.replicate (3 - args.length) .un,[]⟩) : Does QP gp 132 args res :=
 does_intro f132_ok func132 f132_body f132_tr f132_rs (by rw [f132_nt]; exact h)
def f133_r0:List MO:=[Qa (Qv 1) (MOp.ibox (Qn 0)),Qa (Qv 2) (Qd (Qo (Qp (Qq (D.str (ByteArray.mk #[]))))))]
def f133_c0:MC:=.reg false f133_r0
def f133_r1:List MO:=[Qa (Qv 3) (Qg 0 (Qn 1)),Qa (Qv 4) (Qg 1 (Qn 3)),Qa (Qv 5) (Qf 1 false (Qn 4)),Qa (Qv 6) (Qe Qt Go.BinOp.eql (Qn 5) (Qo (Qp (Qq (Qr Qu 1))))),Qa (Qv 7) (Qh 152 [(Qn 6)]),Qa (Qv 2) (Qd (Qn 7))]
def f133_c1:MC:=.reg false f133_r1
def f133_c2:MC:=MC.ret
def f133_c3:MC:=.seq f133_c1 f133_c2
def f133_c4:MC:=.seq f133_c0 f133_c3
attribute [go_sem] f133_r0 f133_r1
noncomputable def f133_code : Code := (f133.body).getD .skip
theorem f133_body : f133.body = Qv f133_code := by kernel_rfl
theorem f133_tr : trC QP [1] f133_code = Qv f133_c4 := by kernel_rfl
theorem f133_rs : rsOf QP f133.results.toList = Qv [(RV.t 2)] := by kernel_rfl
theorem f133_nt : f133.ntmps = 8 := by kernel_rfl
theorem f133_ok : callable QP 133 = true := by kernel_rfl
theorem f133_in {gp : Heap} {args : List V} {res : V} (h : G ⟨QP,gp,0,[(RV.t 2)],fun r c => r = res /\ c = [],false⟩ [.code f133_c4,.fin] ⟨args ++ List.replicate (8 - args.length) .un,[]⟩) : Does QP gp 133 args res :=
 does_intro f133_ok func133 f133_body f133_tr f133_rs (by rw [f133_nt]; exact h)
def f134_r0:List MO:=[Qa (Qv 1) (MOp.ibox (Qn 0)),Qa (Qv 2) (Qd (Qo (Qp (Qq (D.str (ByteArray.mk #[]))))))]
def f134_c0:MC:=.reg false f134_r0
def f134_r1:List MO:=[Qa (Qv 3) (Qg 0 (Qn 1)),Qa (Qv 4) (Qg 1 (Qn 3)),Qa (Qv 5) (Qf 1 false (Qn 4)),Qa (Qv 6) (Qh 107 [(Qn 5)]),Qa (Qv 2) (Qd (Qn 6))]
def f134_c1:MC:=.reg false f134_r1
def f134_c2:MC:=MC.ret
def f134_c3:MC:=.seq f134_c1 f134_c2
def f134_c4:MC:=.seq f134_c0 f134_c3
attribute [go_sem] f134_r0 f134_r1
noncomputable def f134_code : Code := (f134.body).getD .skip
theorem f134_body : f134.body = Qv f134_code := by kernel_rfl
theorem f134_tr : trC QP [1] f134_code = Qv f134_c4 := by kernel_rfl
theorem f134_rs : rsOf QP f134.results.toList = Qv [(RV.t 2)] := by kernel_rfl
theorem f134_nt : f134.ntmps = 7 := by kernel_rfl
theorem f134_ok : callable QP 134 = true := by kernel_rfl
theorem f134_in {gp : Heap} {args : List V} {res : V} (h : G ⟨QP,gp,0,[(RV.t 2)],fun r c => r = res /\ c = [],false⟩ [.code f134_c4,.fin] ⟨args ++ List.replicate (7 - args.length) .un,[]⟩) : Does QP gp 134 args res :=
 does_intro f134_ok func134 f134_body f134_tr f134_rs (by rw [f134_nt]; exact h)
def f135_r0:List MO:=[Qa (Qv 1) (MOp.ibox (Qn 0)),Qa (Qv 2) (Qd (Qo (Qp (Qq (D.str (ByteArray.mk #[]))))))]
def f135_c0:MC:=.reg false f135_r0
def f135_r1:List MO:=[Qa (Qv 6) (Qg 0 (Qn 1)),Qa (Qv 7) (Qg 2 (Qn 6)),Qa (Qv 8) (Qf 1 false (Qn 7)),Qa (Qv 9) (Qh 153 [(Qn 8)]),Qa (Qv 5) (Qd (Qn 9)),Qa (Qv 10) (Qi (Qn 5) 0),Qa (Qv 11) (Qi (Qn 5) 1),Qa (Qv 3) (Qd (Qn 10)),Qa (Qv 4) (Qd (Qn 11))]
def f135_c1:MC:=.reg false f135_r1
def f135_r2:List MO:=[Qa (Qv 12) (Qd (Qn 3)),Qa (Qv 2) (Qd (Qn 12))]
def f135_c2:MC:=.reg false f135_r2
def f135_c3:MC:=MC.ret
def f135_c4:MC:=.seq f135_c2 f135_c3
def f135_c5:MC:=.seq f135_c1 f135_c4
def f135_c6:MC:=.seq f135_c0 f135_c5
attribute [go_sem] f135_r0 f135_r1 f135_r2
noncomputable def f135_code : Code := (f135.body).getD .skip
theorem f135_body : f135.body = Qv f135_code := by kernel_rfl
theorem f135_tr : trC QP [1] f135_code = Qv f135_c6 := by kernel_rfl
theorem f135_rs : rsOf QP f135.results.toList = Qv [(RV.t 2)] := by kernel_rfl
theorem f135_nt : f135.ntmps = 13 := by kernel_rfl
theorem f135_ok : callable QP 135 = true := by kernel_rfl
theorem f135_in {gp : Heap} {args : List V} {res : V} (h : G ⟨QP,gp,0,[(RV.t 2)],fun r c => r = res /\ c = [],false⟩ [.code f135_c6,.fin] ⟨args ++ List.replicate (13 - args.length) .un,[]⟩) : Does QP gp 135 args res :=
 does_intro f135_ok func135 f135_body f135_tr f135_rs (by rw [f135_nt]; exact h)
def f152_r0:List MO:=[Qa (Qv 2) (Qd (Qo (Qp (Qq (D.str (ByteArray.mk #[]))))))]
def f152_c0:MC:=.reg false f152_r0
def f152_r1:List MO:=[Qa (Qv 3) (Qd (Qn 0)),Qa (Qv 4) (Qh 166 [(Qn 3)]),Qa (Qv 2) (Qd (Qn 4))]
def f152_c1:MC:=.reg false f152_r1
def f152_c2:MC:=MC.ret
def f152_c3:MC:=.seq f152_c1 f152_c2
def f152_c4:MC:=.seq f152_c0 f152_c3
attribute [go_sem] f152_r0 f152_r1
noncomputable def f152_code : Code := (f152.body).getD .skip
theorem f152_body : f152.body = Qv f152_code := by kernel_rfl
theorem f152_tr : trC QP [] f152_code = Qv f152_c4 := by kernel_rfl
theorem f152_rs : rsOf QP f152.results.toList = Qv [(RV.t 2)] := by kernel_rfl
theorem f152_nt : f152.ntmps = 5 := by kernel_rfl
theorem f152_ok : callable QP 152 = true := by kernel_rfl
theorem f152_in {gp : Heap} {args : List V} {res : V} (h : G ⟨QP,gp,0,[(RV.t 2)],fun r c => r = res /\ c = [],false⟩ [.code f152_c4,.fin] ⟨args ++ List.replicate (5 - args.length) .un,[]⟩) : Does QP gp 152 args res :=
 does_intro f152_ok func152 f152_body f152_tr f152_rs (by rw [f152_nt]; exact h)
def f153_r0:List MO:=[Qa (Qv 2) (Qd (Qo (Qp (Qq (D.str (ByteArray.mk #[])))))),Qa (Qv 3) (Qd (Qo (Qp (Qq (Qr Qu 0)))))]
def f153_c0:MC:=.reg false f153_r0
def f153_r1:List MO:=[Qa (Qv 10) (Qd (Qn 0)),Qa (Qv 11) (Qh 151 [(Qn 10)]),Qa (Qv 12) (MOp.not (Qn 11))]
def f153_c1:MC:=.reg false f153_r1
def f153_r2:List MO:=[Qa (Qv 2) (Qd (Qo (Qp (Qq (D.str (ByteArray.mk #[])))))),Qa (Qv 3) (Qd (Qo (Qp (Qq (Qr Qu 40)))))]
def f153_c2:MC:=.reg false f153_r2
def f153_c3:MC:=MC.ret
def f153_c4:MC:=.seq f153_c2 f153_c3
def f153_c5:MC:=MC.skip
def f153_c6:MC:=.cond (Qn 12) f153_c4 f153_c5
def f153_c7:MC:=.seq f153_c1 f153_c6
def f153_r8:List MO:=[Qa (Qv 4) (MOp.bldN 170 5)]
def f153_c8:MC:=.reg false f153_r8
def f153_r9:List MO:=[Qa (Qv 13) (MOp.mkF (Go.Fn.func 167) [(Qn 4)]),Qa (Qv 5) (Qd (Qn 13))]
def f153_c9:MC:=.reg false f153_r9
def f153_r10:List MO:=[Qa (Qv 14) (Qd (Qn 5)),Qa (Qv 15) (MOp.bslice 1 [(Qr Go.IntKind.i32 0)] 1 [(0,(Qo (Qp (Qq (Qr Go.IntKind.i32 34)))))]),Qa (Qv 16) (MOp.callv (Qn 14) [(Qn 15)])]
def f153_c10:MC:=.reg false f153_r10
def f153_r11:List MO:=[Qa (Qv 17) (Qd (Qn 0)),Qa (Qv 18) (MOp.rng (Qn 17))]
def f153_c11:MC:=.reg false f153_r11
def f153_r12:List MO:=[Qa (Qv 19) (MOp.nxt (Qn 18)),Qa (Qv 20) (Qi (Qn 19) 0)]
def f153_c12:MC:=.reg false f153_r12
def f153_c13:MC:=MC.skip
def f153_c14:MC:=(MC.exit 0)
def f153_c15:MC:=.cond (Qn 20) f153_c13 f153_c14
def f153_r16:List MO:=[Qa (Qv 21) (Qi (Qn 19) 2),Qa (Qv 7) (Qd (Qn 21))]
def f153_c16:MC:=.reg false f153_r16
def f153_r17:List MO:=[Qa (Qv 23) (Qh 169 []),Qa (Qv 24) (Qd (Qn 7)),Qa (Qv 25) (MOp.lkp true (Qp (Qq (Qr Go.IntKind.i32 0))) false [Qt] (Qn 23) (Qn 24)),Qa (Qv 22) (Qd (Qn 25)),Qa (Qv 26) (Qi (Qn 22) 0),Qa (Qv 27) (Qi (Qn 22) 1),Qa (Qv 8) (Qd (Qn 26)),Qa (Qv 9) (Qd (Qn 27))]
def f153_c17:MC:=.reg false f153_r17
def f153_r18:List MO:=[Qa (Qv 40) (Qd (Qn 9)),Qa (Qv 39) (Qd (Qn 40))]
def f153_c18:MC:=.reg false f153_r18
def f153_r19:List MO:=[Qa (Qv 41) (Qd (Qn 5)),Qa (Qv 42) (Qd (Qn 8)),Qa (Qv 43) (MOp.bslice 1 [(Qr Go.IntKind.i32 0)] 2 [(0,(Qo (Qp (Qq (Qr Go.IntKind.i32 92))))),(1,(Qn 42))]),Qa (Qv 44) (MOp.callv (Qn 41) [(Qn 43)])]
def f153_c19:MC:=.reg false f153_r19
def f153_r20:List MO:=[Qa (Qv 46) (Qd (Qn 7)),Qa (Qv 47) (MOp.bslice 1 [(Qr Go.IntKind.i32 0)] 2 [(0,(Qo (Qp (Qq (Qr Go.IntKind.i32 34))))),(1,(Qo (Qp (Qq (Qr Go.IntKind.i32 92)))))]),Qa (Qv 48) (Qh 170 [(Qn 46),(Qn 47)]),Qa (Qv 45) (Qd (Qn 48))]
def f153_c20:MC:=.reg false f153_r20
def f153_r21:List MO:=[Qa (Qv 49) (Qd (Qn 5)),Qa (Qv 50) (Qd (Qn 7)),Qa (Qv 51) (MOp.bslice 1 [(Qr Go.IntKind.i32 0)] 2 [(0,(Qo (Qp (Qq (Qr Go.IntKind.i32 92))))),(1,(Qn 50))]),Qa (Qv 52) (MOp.callv (Qn 49) [(Qn 51)])]
def f153_c21:MC:=.reg false f153_r21
def f153_r22:List MO:=[Qa (Qv 54) (Qd (Qn 7)),Qa (Qv 55) (Qh 171 [(Qn 54)]),Qa (Qv 53) (Qd (Qn 55))]
def f153_c22:MC:=.reg false f153_r22
def f153_r23:List MO:=[Qa (Qv 56) (Qd (Qn 5)),Qa (Qv 57) (Qd (Qn 7)),Qa (Qv 58) (MOp.bslice 1 [(Qr Go.IntKind.i32 0)] 1 [(0,(Qn 57))]),Qa (Qv 59) (MOp.callv (Qn 56) [(Qn 58)])]
def f153_c23:MC:=.reg false f153_r23
def f153_r24:List MO:=[Qa (Qv 28) (Qd (Qn 5)),Qa (Qv 29) (Qd (Qn 7)),Qa (Qv 30) (Qe Qt Go.BinOp.shr (Qn 29) (Qo (Qp (Qq (Qr Go.IntKind.u64 4))))),Qa (Qv 31) (MOp.idxS (Qo (Qp (Qq (D.str (ByteArray.mk #[48,49,50,51,52,53,54,55,56,57,97,98,99,100,101,102]))))) (Qn 30)),Qa (Qv 32) (MOp.conv Go.IntKind.i32 (Qn 31)),Qa (Qv 33) (Qd (Qn 7)),Qa (Qv 34) (Qe Qt Go.BinOp.and (Qn 33) (Qo (Qp (Qq (Qr Go.IntKind.i32 15))))),Qa (Qv 35) (MOp.idxS (Qo (Qp (Qq (D.str (ByteArray.mk #[48,49,50,51,52,53,54,55,56,57,97,98,99,100,101,102]))))) (Qn 34)),Qa (Qv 36) (MOp.conv Go.IntKind.i32 (Qn 35)),Qa (Qv 37) (MOp.bslice 1 [(Qr Go.IntKind.i32 0)] 4 [(0,(Qo (Qp (Qq (Qr Go.IntKind.i32 92))))),(1,(Qo (Qp (Qq (Qr Go.IntKind.i32 120))))),(2,(Qn 32)),(3,(Qn 36))]),Qc (Qv 38) (MOp.callv (Qn 28) [(Qn 37)])]
def f153_c24:MC:=.reg true f153_r24
def f153_c25:MC:=.cond (Qn 53) f153_c23 f153_c24
def f153_c26:MC:=.seq f153_c22 f153_c25
def f153_c27:MC:=.cond (Qn 45) f153_c21 f153_c26
def f153_c28:MC:=.seq f153_c20 f153_c27
def f153_c29:MC:=.cond (Qn 39) f153_c19 f153_c28
def f153_c30:MC:=.seq f153_c18 f153_c29
def f153_c31:MC:=.blk 2 f153_c30
def f153_c32:MC:=.seq f153_c17 f153_c31
def f153_c33:MC:=.seq f153_c16 f153_c32
def f153_c34:MC:=.blk 1 f153_c33
def f153_c35:MC:=.seq f153_c15 f153_c34
def f153_c36:MC:=.seq f153_c12 f153_c35
def f153_c37:MC:=.loop f153_c36
def f153_c38:MC:=.blk 0 f153_c37
def f153_c39:MC:=.seq f153_c11 f153_c38
def f153_r40:List MO:=[Qa (Qv 60) (Qd (Qn 5)),Qa (Qv 61) (MOp.bslice 1 [(Qr Go.IntKind.i32 0)] 1 [(0,(Qo (Qp (Qq (Qr Go.IntKind.i32 34)))))]),Qa (Qv 62) (MOp.callv (Qn 60) [(Qn 61)])]
def f153_c40:MC:=.reg false f153_r40
def f153_r41:List MO:=[Qa (Qv 63) (Qh 106 [(Qn 4)]),Qa (Qv 2) (Qd (Qn 63)),Qa (Qv 3) (Qd (Qo (Qp (Qq (Qr Qu 0)))))]
def f153_c41:MC:=.reg false f153_r41
def f153_c42:MC:=MC.ret
def f153_c43:MC:=.seq f153_c41 f153_c42
def f153_c44:MC:=.seq f153_c40 f153_c43
def f153_c45:MC:=.seq f153_c39 f153_c44
def f153_c46:MC:=.seq f153_c10 f153_c45
def f153_c47:MC:=.seq f153_c9 f153_c46
def f153_c48:MC:=.seq f153_c8 f153_c47
def f153_c49:MC:=.seq f153_c7 f153_c48
def f153_c50:MC:=.seq f153_c0 f153_c49
attribute [go_sem] f153_r0 f153_r1 f153_r2 f153_r8 f153_r9 f153_r10 f153_r11 f153_r12 f153_r16 f153_r17 f153_r18 f153_r19 f153_r20 f153_r21 f153_r22 f153_r23 f153_r24 f153_r40 f153_r41
noncomputable def f153_code : Code := (f153.body).getD .skip
theorem f153_body : f153.body = Qv f153_code := by kernel_rfl
theorem f153_tr : trC QP [] f153_code = Qv f153_c50 := by kernel_rfl
theorem f153_rs : rsOf QP f153.results.toList = Qv [(RV.t 2),(RV.t 3)] := by kernel_rfl
theorem f153_nt : f153.ntmps = 64 := by kernel_rfl
theorem f153_ok : callable QP 153 = true := by kernel_rfl
theorem f153_in {gp : Heap} {args : List V} {res : V} (h : G ⟨QP,gp,0,[(RV.t 2),(RV.t 3)],fun r c => r = res /\ c = [],false⟩ [.code f153_c50,.fin] ⟨args ++ List.replicate (64 - args.length) .un,[]⟩) : Does QP gp 153 args res :=
 does_intro f153_ok func153 f153_body f153_tr f153_rs (by rw [f153_nt]; exact h)
def f166_r0:List MO:=[Qa (Qv 2) (Qd (Qo (Qp (Qq (D.str (ByteArray.mk #[]))))))]
def f166_c0:MC:=.reg false f166_r0
def f166_r1:List MO:=[Qa (Qv 3) (Qd (Qn 0))]
def f166_c1:MC:=.reg false f166_r1
def f166_r2:List MO:=[Qa (Qv 2) (Qd (Qo (Qp (Qq (D.str (ByteArray.mk #[116,114,117,101]))))))]
def f166_c2:MC:=.reg false f166_r2
def f166_c3:MC:=MC.ret
def f166_c4:MC:=.seq f166_c2 f166_c3
def f166_c5:MC:=MC.skip
def f166_c6:MC:=.cond (Qn 3) f166_c4 f166_c5
def f166_c7:MC:=.seq f166_c1 f166_c6
def f166_r8:List MO:=[Qa (Qv 2) (Qd (Qo (Qp (Qq (D.str (ByteArray.mk #[102,97,108,115,101]))))))]
def f166_c8:MC:=.reg false f166_r8
def f166_c9:MC:=MC.ret
def f166_c10:MC:=.seq f166_c8 f166_c9
def f166_c11:MC:=.seq f166_c7 f166_c10
def f166_c12:MC:=.seq f166_c0 f166_c11
attribute [go_sem] f166_r0 f166_r1 f166_r2 f166_r8
noncomputable def f166_code : Code := (f166.body).getD .skip
theorem f166_body : f166.body = Qv f166_code := by kernel_rfl
theorem f166_tr : trC QP [] f166_code = Qv f166_c12 := by kernel_rfl
theorem f166_rs : rsOf QP f166.results.toList = Qv [(RV.t 2)] := by kernel_rfl
theorem f166_nt : f166.ntmps = 4 := by kernel_rfl
theorem f166_ok : callable QP 166 = true := by kernel_rfl
theorem f166_in {gp : Heap} {args : List V} {res : V} (h : G ⟨QP,gp,0,[(RV.t 2)],fun r c => r = res /\ c = [],false⟩ [.code f166_c12,.fin] ⟨args ++ List.replicate (4 - args.length) .un,[]⟩) : Does QP gp 166 args res :=
 does_intro f166_ok func166 f166_body f166_tr f166_rs (by rw [f166_nt]; exact h)
def f167_r0:List MO:=[Qa (Qv 5) (Qd (Qn 0)),Qa (Qv 6) (Qk Qt (Qn 5)),Qa (Qv 7) (Qd (Qo (Qp (Qq (Qr Qu 0)))))]
def f167_c0:MC:=.reg false f167_r0
def f167_r1:List MO:=[Qa (Qv 8) (Qe Qt Go.BinOp.lss (Qn 7) (Qn 6))]
def f167_c1:MC:=.reg false f167_r1
def f167_c2:MC:=MC.skip
def f167_c3:MC:=(MC.exit 0)
def f167_c4:MC:=.cond (Qn 8) f167_c2 f167_c3
def f167_r5:List MO:=[Qa (Qv 9) (Qj 1 (Qn 5) (Qn 7)),Qa (Qv 10) (Qf 1 false (Qn 9)),Qa (Qv 4) (Qd (Qn 10))]
def f167_c5:MC:=.reg false f167_r5
def f167_r6:List MO:=[Qa (Qv 11) (Qd (Qn 4)),Qa (Qv 12) (Qh 168 [(Qn 1),(Qn 11)])]
def f167_c6:MC:=.reg false f167_r6
def f167_c7:MC:=.seq f167_c5 f167_c6
def f167_c8:MC:=.blk 1 f167_c7
def f167_r9:List MO:=[Qa (Qv 13) (Qe Qt Go.BinOp.add (Qn 7) (Qo (Qp (Qq (Qr Qu 1))))),Qa (Qv 7) (Qd (Qn 13))]
def f167_c9:MC:=.reg false f167_r9
def f167_c10:MC:=.seq f167_c8 f167_c9
def f167_c11:MC:=.seq f167_c4 f167_c10
def f167_c12:MC:=.seq f167_c1 f167_c11
def f167_c13:MC:=.loop f167_c12
def f167_c14:MC:=.blk 0 f167_c13
def f167_c15:MC:=.seq f167_c0 f167_c14
attribute [go_sem] f167_r0 f167_r1 f167_r5 f167_r6 f167_r9
noncomputable def f167_code : Code := (f167.body).getD .skip
theorem f167_body : f167.body = Qv f167_code := by kernel_rfl
theorem f167_tr : trC QP [] f167_code = Qv f167_c15 := by kernel_rfl
theorem f167_rs : rsOf QP f167.results.toList = Qv [] := by kernel_rfl
theorem f167_nt : f167.ntmps = 14 := by kernel_rfl
theorem f167_ok : callable QP 167 = true := by kernel_rfl
theorem f167_tri {gp : Heap} {args : List V} {pre : List Ch} {R : V -> List Ch -> Prop} (h : G ⟨QP,gp,pre.length,[],R,false⟩ [.code f167_c15,.fin] ⟨args ++ List.replicate (14 - args.length) .un,pre⟩) : Tri QP gp 167 args pre R :=
 tri_intro func167 f167_body f167_tr f167_rs (by rw [f167_nt]; exact h)
def f168_r0:List MO:=[Qa (Qv 4) (Qd (Qo (Qp (Qq (Qr Qu 0))))),Qa (Qv 5) (Qd (Qo (Qp (Qq D.nilI))))]
def f168_c0:MC:=.reg false f168_r0
def f168_r1:List MO:=[Qa (Qv 7) (Qd (Qn 0)),Qa (Qv 8) (Qh 136 [(Qn 7)])]
def f168_c1:MC:=.reg false f168_r1
def f168_r2:List MO:=[Qa (Qv 9) (Qd (Qn 0)),Qa (Qv 10) (MOp.nck (Qn 9)),Qa (Qv 11) (Qg 1 (Qn 10)),Qa (Qv 12) (Qf 1 false (Qn 11)),Qa (Qv 13) (Qk Qt (Qn 12)),Qa (Qv 6) (Qd (Qn 13))]
def f168_c2:MC:=.reg false f168_r2
def f168_r3:List MO:=[Qa (Qv 14) (Qd (Qn 0)),Qa (Qv 15) (Qd (Qn 0)),Qa (Qv 16) (MOp.nck (Qn 15)),Qa (Qv 17) (Qg 1 (Qn 16)),Qa (Qv 18) (Qf 1 false (Qn 17)),Qa (Qv 19) (Qd (Qn 1)),Qa (Qv 20) (Qh 184 [(Qn 18),(Qn 19)]),Qa (Qv 21) (MOp.nck (Qn 14)),Qa (Qv 22) (Qg 1 (Qn 21)),Qa none (Ql 1 (Qn 22) (Qn 20))]
def f168_c3:MC:=.reg false f168_r3
def f168_r4:List MO:=[Qa (Qv 23) (Qd (Qn 0)),Qa (Qv 24) (MOp.nck (Qn 23)),Qa (Qv 25) (Qg 1 (Qn 24)),Qa (Qv 26) (Qf 1 false (Qn 25)),Qa (Qv 27) (Qk Qt (Qn 26)),Qa (Qv 28) (Qd (Qn 6)),Qa (Qv 29) (Qe Qt Go.BinOp.sub (Qn 27) (Qn 28)),Qa (Qv 4) (Qd (Qn 29)),Qa (Qv 5) (Qd (Qo (Qp (Qq D.nilI))))]
def f168_c4:MC:=.reg false f168_r4
def f168_c5:MC:=MC.ret
def f168_c6:MC:=.seq f168_c4 f168_c5
def f168_c7:MC:=.seq f168_c3 f168_c6
def f168_c8:MC:=.seq f168_c2 f168_c7
def f168_c9:MC:=.seq f168_c1 f168_c8
def f168_c10:MC:=.seq f168_c0 f168_c9
attribute [go_sem] f168_r0 f168_r1 f168_r2 f168_r3 f168_r4
noncomputable def f168_code : Code := (f168.body).getD .skip
theorem f168_body : f168.body = Qv f168_code := by kernel_rfl
theorem f168_tr : trC QP [] f168_code = Qv f168_c10 := by kernel_rfl
theorem f168_rs : rsOf QP f168.results.toList = Qv [(RV.t 4),(RV.t 5)] := by kernel_rfl
theorem f168_nt : f168.ntmps = 30 := by kernel_rfl
theorem f168_ok : callable QP 168 = true := by kernel_rfl
theorem f168_tri {gp : Heap} {args : List V} {pre : List Ch} {R : V -> List Ch -> Prop} (h : G ⟨QP,gp,pre.length,[(RV.t 4),(RV.t 5)],R,false⟩ [.code f168_c10,.fin] ⟨args ++ List.replicate (30 - args.length) .un,pre⟩) : Tri QP gp 168 args pre R :=
 tri_intro func168 f168_body f168_tr f168_rs (by rw [f168_nt]; exact h)
def f169_r0:List MO:=[Qa (Qv 0) (Qd (Qo (Qp (Qq (D.raw (Go.Value.map none))))))]
def f169_c0:MC:=.reg false f169_r0
def f169_r1:List MO:=[Qa (Qv 1) MOp.mkM,Qa none (MOp.mupd false [Qt] (Qn 1) (Qo (Qp (Qq (Qr Go.IntKind.i32 10)))) (Qo (Qp (Qq (Qr Go.IntKind.i32 110))))),Qa none (MOp.mupd false [Qt] (Qn 1) (Qo (Qp (Qq (Qr Go.IntKind.i32 9)))) (Qo (Qp (Qq (Qr Go.IntKind.i32 116))))),Qa none (MOp.mupd false [Qt] (Qn 1) (Qo (Qp (Qq (Qr Go.IntKind.i32 13)))) (Qo (Qp (Qq (Qr Go.IntKind.i32 114))))),Qa (Qv 2) (Qd (Qn 1)),Qa (Qv 0) (Qd (Qn 2))]
def f169_c1:MC:=.reg false f169_r1
def f169_c2:MC:=MC.ret
def f169_c3:MC:=.seq f169_c1 f169_c2
def f169_c4:MC:=.seq f169_c0 f169_c3
attribute [go_sem] f169_r0 f169_r1
noncomputable def f169_code : Code := (f169.body).getD .skip
theorem f169_body : f169.body = Qv f169_code := by kernel_rfl
theorem f169_tr : trC QP [] f169_code = Qv f169_c4 := by kernel_rfl
theorem f169_rs : rsOf QP f169.results.toList = Qv [(RV.t 0)] := by kernel_rfl
theorem f169_nt : f169.ntmps = 3 := by kernel_rfl
theorem f169_ok : callable QP 169 = true := by kernel_rfl
theorem f169_tri {gp : Heap} {args : List V} {pre : List Ch} {R : V -> List Ch -> Prop} (h : G ⟨QP,gp,pre.length,[(RV.t 0)],R,false⟩ [.code f169_c4,.fin] ⟨args ++ List.replicate (3 - args.length) .un,pre⟩) : Tri QP gp 169 args pre R :=
 tri_intro func169 f169_body f169_tr f169_rs (by rw [f169_nt]; exact h)
def f170_r0:List MO:=[Qa (Qv 4) (Qd (Qo (Qp (Qq (Qs false)))))]
def f170_c0:MC:=.reg false f170_r0
def f170_r1:List MO:=[Qa (Qv 7) (Qd (Qn 1)),Qa (Qv 8) (Qk Qt (Qn 7)),Qa (Qv 9) (Qd (Qo (Qp (Qq (Qr Qu 0)))))]
def f170_c1:MC:=.reg false f170_r1
def f170_r2:List MO:=[Qa (Qv 10) (Qe Qt Go.BinOp.lss (Qn 9) (Qn 8))]
def f170_c2:MC:=.reg false f170_r2
def f170_c3:MC:=MC.skip
def f170_c4:MC:=(MC.exit 0)
def f170_c5:MC:=.cond (Qn 10) f170_c3 f170_c4
def f170_r6:List MO:=[Qa (Qv 11) (Qj 1 (Qn 7) (Qn 9)),Qa (Qv 12) (Qf 1 false (Qn 11)),Qa (Qv 6) (Qd (Qn 12))]
def f170_c6:MC:=.reg false f170_r6
def f170_r7:List MO:=[Qa (Qv 13) (Qd (Qn 0)),Qa (Qv 14) (Qd (Qn 6)),Qa (Qv 15) (Qe Qt Go.BinOp.eql (Qn 13) (Qn 14))]
def f170_c7:MC:=.reg false f170_r7
def f170_r8:List MO:=[Qa (Qv 4) (Qd (Qo (Qp (Qq (Qs true)))))]
def f170_c8:MC:=.reg false f170_r8
def f170_c9:MC:=MC.ret
def f170_c10:MC:=.seq f170_c8 f170_c9
def f170_c11:MC:=MC.skip
def f170_c12:MC:=.cond (Qn 15) f170_c10 f170_c11
def f170_c13:MC:=.seq f170_c7 f170_c12
def f170_c14:MC:=.seq f170_c6 f170_c13
def f170_c15:MC:=.blk 1 f170_c14
def f170_r16:List MO:=[Qa (Qv 16) (Qe Qt Go.BinOp.add (Qn 9) (Qo (Qp (Qq (Qr Qu 1))))),Qa (Qv 9) (Qd (Qn 16))]
def f170_c16:MC:=.reg false f170_r16
def f170_c17:MC:=.seq f170_c15 f170_c16
def f170_c18:MC:=.seq f170_c5 f170_c17
def f170_c19:MC:=.seq f170_c2 f170_c18
def f170_c20:MC:=.loop f170_c19
def f170_c21:MC:=.blk 0 f170_c20
def f170_c22:MC:=.seq f170_c1 f170_c21
def f170_r23:List MO:=[Qa (Qv 4) (Qd (Qo (Qp (Qq (Qs false)))))]
def f170_c23:MC:=.reg false f170_r23
def f170_c24:MC:=MC.ret
def f170_c25:MC:=.seq f170_c23 f170_c24
def f170_c26:MC:=.seq f170_c22 f170_c25
def f170_c27:MC:=.seq f170_c0 f170_c26
attribute [go_sem] f170_r0 f170_r1 f170_r2 f170_r6 f170_r7 f170_r8 f170_r16 f170_r23
noncomputable def f170_code : Code := (f170.body).getD .skip
theorem f170_body : f170.body = Qv f170_code := by kernel_rfl
theorem f170_tr : trC QP [] f170_code = Qv f170_c27 := by kernel_rfl
theorem f170_rs : rsOf QP f170.results.toList = Qv [(RV.t 4)] := by kernel_rfl
theorem f170_nt : f170.ntmps = 17 := by kernel_rfl
theorem f170_ok : callable QP 170 = true := by kernel_rfl
theorem f170_in {gp : Heap} {args : List V} {res : V} (h : G ⟨QP,gp,0,[(RV.t 4)],fun r c => r = res /\ c = [],false⟩ [.code f170_c27,.fin] ⟨args ++ List.replicate (17 - args.length) .un,[]⟩) : Does QP gp 170 args res :=
 does_intro f170_ok func170 f170_body f170_tr f170_rs (by rw [f170_nt]; exact h)
def f171_r0:List MO:=[Qa (Qv 2) (Qd (Qo (Qp (Qq (Qs false)))))]
def f171_c0:MC:=.reg false f171_r0
def f171_r1:List MO:=[Qa (Qv 3) (Qd (Qn 0)),Qa (Qv 4) (Qe Qt Go.BinOp.geq (Qn 3) (Qo (Qp (Qq (Qr Go.IntKind.i32 32))))),Qa (Qv 5) (Qd (Qn 4)),Qb 5 true (Qv 6),Qa (Qv 6) (Qd (Qn 0)),Qb 5 true (Qv 7),Qa (Qv 7) (Qe Qt Go.BinOp.neq (Qn 6) (Qo (Qp (Qq (Qr Go.IntKind.i32 127))))),Qa (Qv 8) (Qm (Qn 5) (Qn 7) (Qo (Qp (Qq (Qs false))))),Qa (Qv 2) (Qd (Qn 8))]
def f171_c1:MC:=.reg false f171_r1
def f171_c2:MC:=MC.ret
def f171_c3:MC:=.seq f171_c1 f171_c2
def f171_c4:MC:=.seq f171_c0 f171_c3
attribute [go_sem] f171_r0 f171_r1
noncomputable def f171_code : Code := (f171.body).getD .skip
theorem f171_body : f171.body = Qv f171_code := by kernel_rfl
theorem f171_tr : trC QP [] f171_code = Qv f171_c4 := by kernel_rfl
theorem f171_rs : rsOf QP f171.results.toList = Qv [(RV.t 2)] := by kernel_rfl
theorem f171_nt : f171.ntmps = 9 := by kernel_rfl
theorem f171_ok : callable QP 171 = true := by kernel_rfl
theorem f171_in {gp : Heap} {args : List V} {res : V} (h : G ⟨QP,gp,0,[(RV.t 2)],fun r c => r = res /\ c = [],false⟩ [.code f171_c4,.fin] ⟨args ++ List.replicate (9 - args.length) .un,[]⟩) : Does QP gp 171 args res :=
 does_intro f171_ok func171 f171_body f171_tr f171_rs (by rw [f171_nt]; exact h)
def f184_r0:List MO:=[Qa (Qv 4) (Qd (Qo (Qp A.nil)))]
def f184_c0:MC:=.reg false f184_r0
def f184_r1:List MO:=[Qa (Qv 5) (Qd (Qn 1)),Qa (Qv 6) (MOp.conv Go.IntKind.u32 (Qn 5)),Qa (Qv 7) (Qe Qt Go.BinOp.leq (Qn 6) (Qo (Qp (Qq (Qr Go.IntKind.u32 127)))))]
def f184_c1:MC:=.reg false f184_r1
def f184_r2:List MO:=[Qa (Qv 8) (Qd (Qn 0)),Qa (Qv 9) (Qd (Qn 1)),Qa (Qv 10) (MOp.conv Go.IntKind.u8 (Qn 9)),Qa (Qv 11) (MOp.bslice 1 [(Qr Go.IntKind.u8 0)] 1 [(0,(Qn 10))]),Qa (Qv 12) (MOp.app 5 1 1 (Qn 8) (Qn 11)),Qa (Qv 4) (Qd (Qn 12))]
def f184_c2:MC:=.reg false f184_r2
def f184_c3:MC:=MC.ret
def f184_c4:MC:=.seq f184_c2 f184_c3
def f184_c5:MC:=MC.skip
def f184_c6:MC:=.cond (Qn 7) f184_c4 f184_c5
def f184_c7:MC:=.seq f184_c1 f184_c6
def f184_r8:List MO:=[Qa (Qv 13) (Qd (Qn 0)),Qa (Qv 14) (Qd (Qn 1)),Qa (Qv 15) (Qh 191 [(Qn 13),(Qn 14)]),Qa (Qv 4) (Qd (Qn 15))]
def f184_c8:MC:=.reg false f184_r8
def f184_c9:MC:=MC.ret
def f184_c10:MC:=.seq f184_c8 f184_c9
def f184_c11:MC:=.seq f184_c7 f184_c10
def f184_c12:MC:=.seq f184_c0 f184_c11
attribute [go_sem] f184_r0 f184_r1 f184_r2 f184_r8
noncomputable def f184_code : Code := (f184.body).getD .skip
theorem f184_body : f184.body = Qv f184_code := by kernel_rfl
theorem f184_tr : trC QP [] f184_code = Qv f184_c12 := by kernel_rfl
theorem f184_rs : rsOf QP f184.results.toList = Qv [(RV.t 4)] := by kernel_rfl
theorem f184_nt : f184.ntmps = 16 := by kernel_rfl
theorem f184_ok : callable QP 184 = true := by kernel_rfl
theorem f184_tri {gp : Heap} {args : List V} {pre : List Ch} {R : V -> List Ch -> Prop} (h : G ⟨QP,gp,pre.length,[(RV.t 4)],R,false⟩ [.code f184_c12,.fin] ⟨args ++ List.replicate (16 - args.length) .un,pre⟩) : Tri QP gp 184 args pre R :=
 tri_intro func184 f184_body f184_tr f184_rs (by rw [f184_nt]; exact h)
def f191_r0:List MO:=[Qa (Qv 4) (Qd (Qo (Qp A.nil)))]
def f191_c0:MC:=.reg false f191_r0
def f191_r1:List MO:=[Qa (Qv 6) (Qd (Qn 1)),Qa (Qv 7) (MOp.conv Go.IntKind.u32 (Qn 6)),Qa (Qv 5) (Qd (Qn 7))]
def f191_c1:MC:=.reg false f191_r1
def f191_r2:List MO:=[Qa (Qv 12) (Qd (Qn 5)),Qa (Qv 13) (Qe Qt Go.BinOp.leq (Qn 12) (Qo (Qp (Qq (Qr Go.IntKind.u32 2047))))),Qa (Qv 11) (Qd (Qn 13))]
def f191_c2:MC:=.reg false f191_r2
def f191_r3:List MO:=[Qa (Qv 14) (Qd (Qn 0)),Qa (Qv 15) (Qd (Qn 1)),Qa (Qv 16) (Qe Qt Go.BinOp.shr (Qn 15) (Qo (Qp (Qq (Qr Go.IntKind.u64 6))))),Qa (Qv 17) (MOp.conv Go.IntKind.u8 (Qn 16)),Qa (Qv 18) (Qe Qt Go.BinOp.or (Qo (Qp (Qq (Qr Go.IntKind.u8 192)))) (Qn 17)),Qa (Qv 19) (Qd (Qn 1)),Qa (Qv 20) (MOp.conv Go.IntKind.u8 (Qn 19)),Qa (Qv 21) (Qe Qt Go.BinOp.and (Qn 20) (Qo (Qp (Qq (Qr Go.IntKind.u8 63))))),Qa (Qv 22) (Qe Qt Go.BinOp.or (Qo (Qp (Qq (Qr Go.IntKind.u8 128)))) (Qn 21)),Qa (Qv 23) (MOp.bslice 1 [(Qr Go.IntKind.u8 0)] 2 [(0,(Qn 18)),(1,(Qn 22))]),Qa (Qv 24) (MOp.app 5 1 1 (Qn 14) (Qn 23)),Qa (Qv 4) (Qd (Qn 24))]
def f191_c3:MC:=.reg false f191_r3
def f191_c4:MC:=MC.ret
def f191_c5:MC:=.seq f191_c3 f191_c4
def f191_r6:List MO:=[Qa (Qv 26) (Qd (Qn 5)),Qa (Qv 27) (Qe Qt Go.BinOp.lss (Qn 26) (Qo (Qp (Qq (Qr Go.IntKind.u32 55296))))),Qa (Qv 25) (Qd (Qn 27))]
def f191_c6:MC:=.reg false f191_r6
def f191_c7:MC:=MC.skip
def f191_r8:List MO:=[Qa (Qv 28) (Qd (Qn 5)),Qa (Qv 29) (Qe Qt Go.BinOp.lss (Qo (Qp (Qq (Qr Go.IntKind.u32 57343)))) (Qn 28)),Qa (Qv 30) (Qd (Qn 29)),Qb 30 true (Qv 31),Qa (Qv 31) (Qd (Qn 5)),Qb 30 true (Qv 32),Qa (Qv 32) (Qe Qt Go.BinOp.leq (Qn 31) (Qo (Qp (Qq (Qr Go.IntKind.u32 65535))))),Qa (Qv 33) (Qm (Qn 30) (Qn 32) (Qo (Qp (Qq (Qs false))))),Qa (Qv 25) (Qd (Qn 33))]
def f191_c8:MC:=.reg false f191_r8
def f191_c9:MC:=.cond (Qn 25) f191_c7 f191_c8
def f191_c10:MC:=.seq f191_c6 f191_c9
def f191_r11:List MO:=[Qa (Qv 34) (Qd (Qn 0)),Qa (Qv 35) (Qd (Qn 1)),Qa (Qv 36) (Qe Qt Go.BinOp.shr (Qn 35) (Qo (Qp (Qq (Qr Go.IntKind.u64 12))))),Qa (Qv 37) (MOp.conv Go.IntKind.u8 (Qn 36)),Qa (Qv 38) (Qe Qt Go.BinOp.or (Qo (Qp (Qq (Qr Go.IntKind.u8 224)))) (Qn 37)),Qa (Qv 39) (Qd (Qn 1)),Qa (Qv 40) (Qe Qt Go.BinOp.shr (Qn 39) (Qo (Qp (Qq (Qr Go.IntKind.u64 6))))),Qa (Qv 41) (MOp.conv Go.IntKind.u8 (Qn 40)),Qa (Qv 42) (Qe Qt Go.BinOp.and (Qn 41) (Qo (Qp (Qq (Qr Go.IntKind.u8 63))))),Qa (Qv 43) (Qe Qt Go.BinOp.or (Qo (Qp (Qq (Qr Go.IntKind.u8 128)))) (Qn 42)),Qa (Qv 44) (Qd (Qn 1)),Qa (Qv 45) (MOp.conv Go.IntKind.u8 (Qn 44)),Qa (Qv 46) (Qe Qt Go.BinOp.and (Qn 45) (Qo (Qp (Qq (Qr Go.IntKind.u8 63))))),Qa (Qv 47) (Qe Qt Go.BinOp.or (Qo (Qp (Qq (Qr Go.IntKind.u8 128)))) (Qn 46)),Qa (Qv 48) (MOp.bslice 1 [(Qr Go.IntKind.u8 0)] 3 [(0,(Qn 38)),(1,(Qn 43)),(2,(Qn 47))]),Qa (Qv 49) (MOp.app 5 1 1 (Qn 34) (Qn 48)),Qa (Qv 4) (Qd (Qn 49))]
def f191_c11:MC:=.reg false f191_r11
def f191_c12:MC:=MC.ret
def f191_c13:MC:=.seq f191_c11 f191_c12
def f191_r14:List MO:=[Qa (Qv 51) (Qd (Qn 5)),Qa (Qv 52) (Qe Qt Go.BinOp.gtr (Qn 51) (Qo (Qp (Qq (Qr Go.IntKind.u32 65535))))),Qa (Qv 53) (Qd (Qn 52)),Qb 53 true (Qv 54),Qa (Qv 54) (Qd (Qn 5)),Qb 53 true (Qv 55),Qa (Qv 55) (Qe Qt Go.BinOp.leq (Qn 54) (Qo (Qp (Qq (Qr Go.IntKind.u32 1114111))))),Qa (Qv 56) (Qm (Qn 53) (Qn 55) (Qo (Qp (Qq (Qs false))))),Qa (Qv 50) (Qd (Qn 56))]
def f191_c14:MC:=.reg false f191_r14
def f191_r15:List MO:=[Qa (Qv 57) (Qd (Qn 0)),Qa (Qv 58) (Qd (Qn 1)),Qa (Qv 59) (Qe Qt Go.BinOp.shr (Qn 58) (Qo (Qp (Qq (Qr Go.IntKind.u64 18))))),Qa (Qv 60) (MOp.conv Go.IntKind.u8 (Qn 59)),Qa (Qv 61) (Qe Qt Go.BinOp.or (Qo (Qp (Qq (Qr Go.IntKind.u8 240)))) (Qn 60)),Qa (Qv 62) (Qd (Qn 1)),Qa (Qv 63) (Qe Qt Go.BinOp.shr (Qn 62) (Qo (Qp (Qq (Qr Go.IntKind.u64 12))))),Qa (Qv 64) (MOp.conv Go.IntKind.u8 (Qn 63)),Qa (Qv 65) (Qe Qt Go.BinOp.and (Qn 64) (Qo (Qp (Qq (Qr Go.IntKind.u8 63))))),Qa (Qv 66) (Qe Qt Go.BinOp.or (Qo (Qp (Qq (Qr Go.IntKind.u8 128)))) (Qn 65)),Qa (Qv 67) (Qd (Qn 1)),Qa (Qv 68) (Qe Qt Go.BinOp.shr (Qn 67) (Qo (Qp (Qq (Qr Go.IntKind.u64 6))))),Qa (Qv 69) (MOp.conv Go.IntKind.u8 (Qn 68)),Qa (Qv 70) (Qe Qt Go.BinOp.and (Qn 69) (Qo (Qp (Qq (Qr Go.IntKind.u8 63))))),Qa (Qv 71) (Qe Qt Go.BinOp.or (Qo (Qp (Qq (Qr Go.IntKind.u8 128)))) (Qn 70)),Qa (Qv 72) (Qd (Qn 1)),Qa (Qv 73) (MOp.conv Go.IntKind.u8 (Qn 72)),Qa (Qv 74) (Qe Qt Go.BinOp.and (Qn 73) (Qo (Qp (Qq (Qr Go.IntKind.u8 63))))),Qa (Qv 75) (Qe Qt Go.BinOp.or (Qo (Qp (Qq (Qr Go.IntKind.u8 128)))) (Qn 74)),Qa (Qv 76) (MOp.bslice 1 [(Qr Go.IntKind.u8 0)] 4 [(0,(Qn 61)),(1,(Qn 66)),(2,(Qn 71)),(3,(Qn 75))]),Qa (Qv 77) (MOp.app 5 1 1 (Qn 57) (Qn 76)),Qa (Qv 4) (Qd (Qn 77))]
def f191_c15:MC:=.reg false f191_r15
def f191_c16:MC:=MC.ret
def f191_c17:MC:=.seq f191_c15 f191_c16
def f191_r18:List MO:=[Qa (Qv 8) (Qd (Qn 0)),Qa (Qv 9) (MOp.bslice 1 [(Qr Go.IntKind.u8 0)] 3 [(0,(Qo (Qp (Qq (Qr Go.IntKind.u8 239))))),(1,(Qo (Qp (Qq (Qr Go.IntKind.u8 191))))),(2,(Qo (Qp (Qq (Qr Go.IntKind.u8 189)))))]),Qa (Qv 10) (MOp.app 5 1 1 (Qn 8) (Qn 9)),Qa (Qv 4) (Qd (Qn 10))]
def f191_c18:MC:=.reg false f191_r18
def f191_c19:MC:=MC.ret
def f191_c20:MC:=.seq f191_c18 f191_c19
def f191_c21:MC:=.cond (Qn 50) f191_c17 f191_c20
def f191_c22:MC:=.seq f191_c14 f191_c21
def f191_c23:MC:=.cond (Qn 25) f191_c13 f191_c22
def f191_c24:MC:=.seq f191_c10 f191_c23
def f191_c25:MC:=.cond (Qn 11) f191_c5 f191_c24
def f191_c26:MC:=.seq f191_c2 f191_c25
def f191_c27:MC:=.blk 0 f191_c26
def f191_c28:MC:=.seq f191_c1 f191_c27
def f191_c29:MC:=.seq f191_c0 f191_c28
attribute [go_sem] f191_r0 f191_r1 f191_r2 f191_r3 f191_r6 f191_r8 f191_r11 f191_r14 f191_r15 f191_r18
noncomputable def f191_code : Code := (f191.body).getD .skip
theorem f191_body : f191.body = Qv f191_code := by kernel_rfl
theorem f191_tr : trC QP [] f191_code = Qv f191_c29 := by kernel_rfl
theorem f191_rs : rsOf QP f191.results.toList = Qv [(RV.t 4)] := by kernel_rfl
theorem f191_nt : f191.ntmps = 78 := by kernel_rfl
theorem f191_ok : callable QP 191 = true := by kernel_rfl
theorem f191_tri {gp : Heap} {args : List V} {pre : List Ch} {R : V -> List Ch -> Prop} (h : G ⟨QP,gp,pre.length,[(RV.t 4)],R,false⟩ [.code f191_c29,.fin] ⟨args ++ List.replicate (78 - args.length) .un,pre⟩) : Tri QP gp 191 args pre R :=
 tri_intro func191 f191_body f191_tr f191_rs (by rw [f191_nt]; exact h)
-- f192: trC none
-- f193: trC none
-- f194: no body
-- f195: no body
-- f196: no body
-- f197: no body
-- f198: no body
-- f199: no body
-- f200: no body
-- f201: no body
-- f202: no body
-- f203: no body
-- f204: no body
-- f205: no body
-- f206: no body
-- f207: no body
-- f208: no body
-- f209: no body
-- f210: no body
-- f211: no body
-- f212: no body
-- f213: no body
-- f214: no body
-- f215: no body
-- f216: no body
-- f217: no body
-- f218: no body
-- f219: no body
-- f220: no body
-- f221: no body
-- f222: no body
-- f223: no body
-- f224: no body
-- f225: no body
-- f226: no body
-- f227: no body
-- f228: no body
-- f229: no body
end Go.Fw.L07
