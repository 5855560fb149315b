/- Small codes. -/
import Derived.Test.YtldjkoidjigjpaaGreatDoorFd
import Derived.Test.YtldjkoidjigjpaaGreatDoorProg
set_option linter.all false
namespace Go.Fw.L07
open Go Go.Fw
open Go.Proofs.Tryz renaming prog -> QP
open Go.Proofs.Tryz (f108 f134 f135 f31 f32 f33 f36 f37 f74 f75 f76 f77 f78 func108 func134 func135 func31 func32 func33 func36 func37 func74 func75 func76 func77 func78)
open Go.Fw.MO renaming op -> Qa,chk -> Qb,opx -> Qc
open Go.Fw.MOp renaming mv -> Qd,bin -> Qe,load -> Qf,fad -> Qg,call -> Qh,ext -> Qi,iad -> Qj,len -> Qk,store -> Ql,pick -> Qm
open Go.Fw.Opd renaming t -> Qn,c -> Qo
open Go.Fw.V renaming one -> Qp
open Go.Fw.A renaming d -> Qq
open Go.Fw.D renaming int -> Qr,bool -> Qs
open Go.Fw.Leaf renaming i -> Qt
open Go.IntKind renaming i64 -> Qu
open Option renaming some -> Qv
def f31_r0:List MO:=[Qa (Qv 1) (MOp.ibox (Qn 0)),Qa (Qv 2) (Qd (Qo (Qp A.nil))),Qa (Qv 3) (Qd (Qo (Qp (Qq (Qr Qu 0)))))]
def f31_c0:MC:=.reg false f31_r0
def f31_r1:List MO:=[Qa (Qv 7) (Qf 2 true (Qn 1)),Qa (Qv 8) (Qh 17 [(Qn 7)]),Qa (Qv 6) (Qd (Qn 8)),Qa (Qv 9) (Qi (Qn 6) 0),Qa (Qv 10) (Qi (Qn 6) 1),Qa (Qv 4) (Qd (Qn 9)),Qa (Qv 5) (Qd (Qn 10))]
def f31_c1:MC:=.reg false f31_r1
def f31_r2:List MO:=[Qa (Qv 11) (Qd (Qn 5)),Qa (Qv 12) (Qe Qt Go.BinOp.neq (Qn 11) (Qo (Qp (Qq (Qr Qu 0)))))]
def f31_c2:MC:=.reg false f31_r2
def f31_r3:List MO:=[Qa (Qv 13) (Qd (Qn 5)),Qa (Qv 2) (Qd (Qo (Qp A.nil))),Qa (Qv 3) (Qd (Qn 13))]
def f31_c3:MC:=.reg false f31_r3
def f31_c4:MC:=MC.ret
def f31_c5:MC:=.seq f31_c3 f31_c4
def f31_c6:MC:=MC.skip
def f31_c7:MC:=.cond (Qn 12) f31_c5 f31_c6
def f31_c8:MC:=.seq f31_c2 f31_c7
def f31_r9:List MO:=[Qa (Qv 14) (Qf 2 true (Qn 1)),Qa (Qv 15) (Qg 0 (Qn 1)),Qa (Qv 16) (Qf 1 false (Qn 15)),Qa (Qv 17) (Qh 76 [(Qn 14),(Qn 16),(Qo (Qp A.nil))]),Qa (Qv 2) (Qd (Qn 17)),Qa (Qv 3) (Qd (Qo (Qp (Qq (Qr Qu 0)))))]
def f31_c9:MC:=.reg false f31_r9
def f31_c10:MC:=MC.ret
def f31_c11:MC:=.seq f31_c9 f31_c10
def f31_c12:MC:=.seq f31_c8 f31_c11
def f31_c13:MC:=.seq f31_c1 f31_c12
def f31_c14:MC:=.seq f31_c0 f31_c13
attribute [go_sem] f31_r0 f31_r1 f31_r2 f31_r3
noncomputable def f31_code : Code := (f31.body).getD .skip
theorem f31_body : f31.body = Qv f31_code := by kernel_rfl
theorem f31_tr : trC QP [1] f31_code = Qv f31_c14 := by kernel_rfl
theorem f31_rs : rsOf QP f31.results.toList = Qv [(RV.t 2),(RV.t 3)] := by kernel_rfl
theorem f31_nt : f31.ntmps = 18 := by kernel_rfl
theorem f31_ok : callable QP 31 = true := by kernel_rfl
theorem f31_in {gp : Heap} {args : List V} {res : V} (h : G ⟨QP,gp,0,[(RV.t 2),(RV.t 3)],fun r c => r = res /\ c = [],false⟩ [.code f31_c14,.fin] ⟨args ++ List.replicate (18 - args.length) .un,[]⟩) : Does QP gp 31 args res :=
 does_intro f31_ok func31 f31_body f31_tr f31_rs (by rw [f31_nt]; exact h)
def f32_r0:List MO:=[Qa (Qv 1) (MOp.ibox (Qn 0)),Qa (Qv 2) (MOp.alloc [(Qr Qu 0),(D.sl [])]),Qa (Qv 3) (Qd (Qo (Qp (Qq (Qr Qu 0)))))]
def f32_c0:MC:=.reg false f32_r0
def f32_r1:List MO:=[Qa (Qv 14) (Qf 2 true (Qn 1)),Qa (Qv 15) (Qh 16 [(Qn 14)]),Qa (Qv 13) (Qd (Qn 15)),Qa (Qv 16) (Qi (Qn 13) 0),Qa (Qv 17) (Qi (Qn 13) 1),Qa (Qv 4) (Qd (Qn 16)),Qa (Qv 5) (Qd (Qn 17))]
def f32_c1:MC:=.reg false f32_r1
def f32_r2:List MO:=[Qa (Qv 18) (Qd (Qn 5)),Qa (Qv 19) (Qe Qt Go.BinOp.neq (Qn 18) (Qo (Qp (Qq (Qr Qu 0)))))]
def f32_c2:MC:=.reg false f32_r2
def f32_r3:List MO:=[Qa (Qv 20) (MOp.build [(Qr Qu 0),(D.sl [])] []),Qa (Qv 21) (Qd (Qn 5)),Qa none (Ql 2 (Qn 2) (Qn 20)),Qa (Qv 3) (Qd (Qn 21))]
def f32_c3:MC:=.reg false f32_r3
def f32_c4:MC:=MC.ret
def f32_c5:MC:=.seq f32_c3 f32_c4
def f32_c6:MC:=MC.skip
def f32_c7:MC:=.cond (Qn 19) f32_c5 f32_c6
def f32_c8:MC:=.seq f32_c2 f32_c7
def f32_c9:MC:=.seq f32_c1 f32_c8
def f32_r10:List MO:=[Qa (Qv 22) (Qf 2 true (Qn 1)),Qa (Qv 23) (Qh 74 [(Qn 22)]),Qa (Qv 6) (Qd (Qn 23))]
def f32_c10:MC:=.reg false f32_r10
def f32_r11:List MO:=[Qa (Qv 7) (MOp.alloc [(Qr Qu 0),(D.sl [])])]
def f32_c11:MC:=.reg false f32_r11
def f32_r12:List MO:=[Qa (Qv 24) (Qd (Qn 6)),Qa (Qv 25) (Qh 75 [(Qn 24)]),Qa (Qv 26) (Qk Qt (Qn 25)),Qa (Qv 27) (Qd (Qo (Qp (Qq (Qr Qu 0)))))]
def f32_c12:MC:=.reg false f32_r12
def f32_r13:List MO:=[Qa (Qv 28) (Qe Qt Go.BinOp.lss (Qn 27) (Qn 26))]
def f32_c13:MC:=.reg false f32_r13
def f32_c14:MC:=MC.skip
def f32_c15:MC:=(MC.exit 0)
def f32_c16:MC:=.cond (Qn 28) f32_c14 f32_c15
def f32_r17:List MO:=[Qa (Qv 29) (Qj 1 (Qn 25) (Qn 27)),Qa (Qv 30) (Qf 1 false (Qn 29)),Qa (Qv 9) (Qd (Qn 30))]
def f32_c17:MC:=.reg false f32_r17
def f32_r18:List MO:=[Qa (Qv 31) (Qg 1 (Qn 1)),Qa (Qv 32) (Qf 1 false (Qn 31)),Qa (Qv 33) (Qd (Qn 9)),Qa (Qv 34) (Qj 6 (Qn 32) (Qn 33)),Qa (Qv 35) (Qg 0 (Qn 34)),Qa (Qv 36) (Qf 1 false (Qn 35)),Qa (Qv 37) (Qg 1 (Qn 1)),Qa (Qv 38) (Qf 1 false (Qn 37)),Qa (Qv 39) (Qd (Qn 9)),Qa (Qv 40) (Qj 6 (Qn 38) (Qn 39)),Qa (Qv 41) (Qg 1 (Qn 40)),Qa (Qv 42) (Qf 3 true (Qn 41)),Qa (Qv 43) (MOp.build [(Qr Qu 0),(Qr Qu 0),(Qr Qu 0),(D.str (ByteArray.mk #[])),(D.sl []),(D.sl [])] [(0,(1,(Qn 36))),(1,(3,(Qn 42)))]),Qa (Qv 10) (MOp.alloc [(Qr Qu 0),(Qr Qu 0),(Qr Qu 0),(D.str (ByteArray.mk #[])),(D.sl []),(D.sl [])]),Qa none (Ql 6 (Qn 10) (Qn 43))]
def f32_c18:MC:=.reg true f32_r18
def f32_r19:List MO:=[Qa (Qv 45) (Qf 2 true (Qn 1)),Qa (Qv 46) (Qd (Qn 9)),Qa (Qv 47) (Qh 20 [(Qn 45),(Qn 46)]),Qa (Qv 44) (Qd (Qn 47)),Qa (Qv 48) (Qi (Qn 44) 0),Qa (Qv 49) (Qi (Qn 44) 1),Qa (Qv 50) (Qg 4 (Qn 10)),Qa none (Ql 1 (Qn 50) (Qn 48))]
def f32_c19:MC:=.reg false f32_r19
def f32_r20:List MO:=[Qa (Qv 52) (Qf 2 true (Qn 1)),Qa (Qv 53) (Qd (Qn 9)),Qa (Qv 54) (Qh 18 [(Qn 52),(Qn 53)]),Qa (Qv 51) (Qd (Qn 54)),Qa (Qv 55) (Qi (Qn 51) 0),Qa (Qv 56) (Qi (Qn 51) 1),Qa (Qv 11) (Qd (Qn 55)),Qa (Qv 12) (Qd (Qn 56))]
def f32_c20:MC:=.reg false f32_r20
def f32_r21:List MO:=[Qa (Qv 57) (Qd (Qn 6)),Qa (Qv 58) (Qd (Qn 11)),Qa (Qv 59) (Qh 77 [(Qn 57),(Qn 58)]),Qa (Qv 60) (Qg 5 (Qn 10)),Qa none (Ql 1 (Qn 60) (Qn 59))]
def f32_c21:MC:=.reg false f32_r21
def f32_r22:List MO:=[Qa (Qv 61) (Qg 1 (Qn 7)),Qa (Qv 62) (Qf 1 false (Qn 61)),Qa (Qv 63) (Qf 6 true (Qn 10)),Qa (Qv 64) (MOp.bslice 6 [(Qr Qu 0),(Qr Qu 0),(Qr Qu 0),(D.str (ByteArray.mk #[])),(D.sl []),(D.sl [])] 1 [(0,(Qn 63))]),Qa (Qv 65) (MOp.app 66 6 88 (Qn 62) (Qn 64)),Qa (Qv 66) (Qg 1 (Qn 7)),Qa none (Ql 1 (Qn 66) (Qn 65))]
def f32_c22:MC:=.reg false f32_r22
def f32_c23:MC:=.seq f32_c21 f32_c22
def f32_c24:MC:=.seq f32_c20 f32_c23
def f32_c25:MC:=.seq f32_c19 f32_c24
def f32_c26:MC:=.seq f32_c18 f32_c25
def f32_c27:MC:=.seq f32_c17 f32_c26
def f32_c28:MC:=.blk 1 f32_c27
def f32_r29:List MO:=[Qa (Qv 67) (Qe Qt Go.BinOp.add (Qn 27) (Qo (Qp (Qq (Qr Qu 1))))),Qa (Qv 27) (Qd (Qn 67))]
def f32_c29:MC:=.reg false f32_r29
def f32_c30:MC:=.seq f32_c28 f32_c29
def f32_c31:MC:=.seq f32_c16 f32_c30
def f32_c32:MC:=.seq f32_c13 f32_c31
def f32_c33:MC:=.loop f32_c32
def f32_c34:MC:=.blk 0 f32_c33
def f32_c35:MC:=.seq f32_c12 f32_c34
def f32_r36:List MO:=[Qa (Qv 68) (Qf 2 true (Qn 7)),Qa none (Ql 2 (Qn 2) (Qn 68)),Qa (Qv 3) (Qd (Qo (Qp (Qq (Qr Qu 0)))))]
def f32_c36:MC:=.reg false f32_r36
def f32_c37:MC:=MC.ret
def f32_c38:MC:=.seq f32_c36 f32_c37
def f32_c39:MC:=.seq f32_c35 f32_c38
def f32_c40:MC:=.seq f32_c11 f32_c39
def f32_c41:MC:=.seq f32_c10 f32_c40
def f32_c42:MC:=.seq f32_c9 f32_c41
def f32_c43:MC:=.seq f32_c0 f32_c42
attribute [go_sem] f32_r0 f32_r1 f32_r2 f32_r3 f32_r11 f32_r12 f32_r13 f32_r17 f32_r18 f32_r19 f32_r20 f32_r21 f32_r22 f32_r29 f32_r36
noncomputable def f32_code : Code := (f32.body).getD .skip
theorem f32_body : f32.body = Qv f32_code := by kernel_rfl
theorem f32_tr : trC QP [1] f32_code = Qv f32_c43 := by kernel_rfl
theorem f32_rs : rsOf QP f32.results.toList = Qv [(RV.cell 2 2 true),(RV.t 3)] := by kernel_rfl
theorem f32_nt : f32.ntmps = 69 := by kernel_rfl
theorem f32_ok : callable QP 32 = true := by kernel_rfl
theorem f32_in {gp : Heap} {args : List V} {res : V} (h : G ⟨QP,gp,0,[(RV.cell 2 2 true),(RV.t 3)],fun r c => r = res /\ c = [],false⟩ [.code f32_c43,.fin] ⟨args ++ List.replicate (69 - args.length) .un,[]⟩) : Does QP gp 32 args res :=
 does_intro f32_ok func32 f32_body f32_tr f32_rs (by rw [f32_nt]; exact h)
def f33_r0:List MO:=[Qa (Qv 1) (MOp.ibox (Qn 0)),Qa (Qv 2) (MOp.alloc [(Qr Qu 0),(D.sl [])]),Qa (Qv 3) (Qd (Qo (Qp (Qq (Qr Qu 0)))))]
def f33_c0:MC:=.reg false f33_r0
def f33_r1:List MO:=[Qa (Qv 14) (Qf 2 true (Qn 1)),Qa (Qv 15) (Qh 31 [(Qn 14)]),Qa (Qv 13) (Qd (Qn 15)),Qa (Qv 16) (Qi (Qn 13) 0),Qa (Qv 17) (Qi (Qn 13) 1),Qa (Qv 4) (Qd (Qn 16)),Qa (Qv 5) (Qd (Qn 17))]
def f33_c1:MC:=.reg false f33_r1
def f33_r2:List MO:=[Qa (Qv 18) (Qd (Qn 5)),Qa (Qv 19) (Qe Qt Go.BinOp.neq (Qn 18) (Qo (Qp (Qq (Qr Qu 0)))))]
def f33_c2:MC:=.reg false f33_r2
def f33_r3:List MO:=[Qa (Qv 20) (MOp.build [(Qr Qu 0),(D.sl [])] []),Qa (Qv 21) (Qd (Qn 5)),Qa none (Ql 2 (Qn 2) (Qn 20)),Qa (Qv 3) (Qd (Qn 21))]
def f33_c3:MC:=.reg false f33_r3
def f33_c4:MC:=MC.ret
def f33_c5:MC:=.seq f33_c3 f33_c4
def f33_c6:MC:=MC.skip
def f33_c7:MC:=.cond (Qn 19) f33_c5 f33_c6
def f33_c8:MC:=.seq f33_c2 f33_c7
def f33_r9:List MO:=[Qa (Qv 22) (MOp.build [(Qr Qu 0),(D.sl [])] []),Qa (Qv 6) (MOp.alloc [(Qr Qu 0),(D.sl [])]),Qa none (Ql 2 (Qn 6) (Qn 22))]
def f33_c9:MC:=.reg false f33_r9
def f33_r10:List MO:=[Qa (Qv 7) (Qd (Qo (Qp (Qq (Qr Qu 0)))))]
def f33_c10:MC:=.reg false f33_r10
def f33_r11:List MO:=[Qa (Qv 23) (Qd (Qn 7)),Qa (Qv 24) (Qd (Qn 4)),Qa (Qv 25) (Qk Qt (Qn 24)),Qa (Qv 26) (Qe Qt Go.BinOp.lss (Qn 23) (Qn 25))]
def f33_c11:MC:=.reg false f33_r11
def f33_c12:MC:=MC.skip
def f33_c13:MC:=(MC.exit 0)
def f33_c14:MC:=.cond (Qn 26) f33_c12 f33_c13
def f33_c15:MC:=.seq f33_c11 f33_c14
def f33_r16:List MO:=[Qa (Qv 29) (Qg 1 (Qn 1)),Qa (Qv 30) (Qf 1 false (Qn 29)),Qa (Qv 31) (Qd (Qn 4)),Qa (Qv 32) (Qd (Qn 7)),Qa (Qv 33) (Qj 1 (Qn 31) (Qn 32)),Qa (Qv 34) (Qf 1 false (Qn 33)),Qa (Qv 35) (Qj 6 (Qn 30) (Qn 34)),Qa (Qv 36) (Qf 6 true (Qn 35)),Qa (Qv 8) (MOp.alloc [(Qr Qu 0),(Qr Qu 0),(Qr Qu 0),(D.str (ByteArray.mk #[])),(D.sl []),(D.sl [])]),Qa none (Ql 6 (Qn 8) (Qn 36))]
def f33_c16:MC:=.reg true f33_r16
def f33_r17:List MO:=[Qa (Qv 37) (Qg 0 (Qn 8)),Qa (Qv 38) (Qf 1 false (Qn 37)),Qa (Qv 39) (Qg 1 (Qn 8)),Qa (Qv 40) (Qf 3 true (Qn 39)),Qa (Qv 41) (MOp.build [(Qr Qu 0),(Qr Qu 0),(Qr Qu 0),(D.str (ByteArray.mk #[])),(D.sl []),(D.sl [])] [(0,(1,(Qn 38))),(1,(3,(Qn 40)))]),Qa (Qv 9) (MOp.alloc [(Qr Qu 0),(Qr Qu 0),(Qr Qu 0),(D.str (ByteArray.mk #[])),(D.sl []),(D.sl [])]),Qa none (Ql 6 (Qn 9) (Qn 41))]
def f33_c17:MC:=.reg false f33_r17
def f33_r18:List MO:=[Qa (Qv 43) (Qf 2 true (Qn 1)),Qa (Qv 44) (Qd (Qn 4)),Qa (Qv 45) (Qd (Qn 7)),Qa (Qv 46) (Qj 1 (Qn 44) (Qn 45)),Qa (Qv 47) (Qf 1 false (Qn 46)),Qc (Qv 48) (Qh 21 [(Qn 43),(Qn 47)]),Qa (Qv 42) (Qd (Qn 48)),Qa (Qv 49) (Qi (Qn 42) 0),Qa (Qv 50) (Qi (Qn 42) 1),Qa (Qv 51) (Qg 4 (Qn 9)),Qa none (Ql 1 (Qn 51) (Qn 49))]
def f33_c18:MC:=.reg true f33_r18
def f33_r19:List MO:=[Qa (Qv 53) (Qf 2 true (Qn 1)),Qa (Qv 54) (Qd (Qn 4)),Qa (Qv 55) (Qd (Qn 7)),Qa (Qv 56) (Qj 1 (Qn 54) (Qn 55)),Qa (Qv 57) (Qf 1 false (Qn 56)),Qc (Qv 58) (Qh 19 [(Qn 53),(Qn 57)]),Qa (Qv 52) (Qd (Qn 58)),Qa (Qv 59) (Qi (Qn 52) 0),Qa (Qv 60) (Qi (Qn 52) 1),Qa (Qv 10) (Qd (Qn 59)),Qa (Qv 11) (Qd (Qn 60))]
def f33_c19:MC:=.reg true f33_r19
def f33_r20:List MO:=[Qa (Qv 12) (Qd (Qo (Qp (Qq (Qr Qu 0)))))]
def f33_c20:MC:=.reg false f33_r20
def f33_r21:List MO:=[Qa (Qv 61) (Qd (Qn 12)),Qa (Qv 62) (Qd (Qn 10)),Qa (Qv 63) (Qk Qt (Qn 62)),Qa (Qv 64) (Qe Qt Go.BinOp.lss (Qn 61) (Qn 63))]
def f33_c21:MC:=.reg false f33_r21
def f33_c22:MC:=MC.skip
def f33_c23:MC:=(MC.exit 2)
def f33_c24:MC:=.cond (Qn 64) f33_c22 f33_c23
def f33_c25:MC:=.seq f33_c21 f33_c24
def f33_r26:List MO:=[Qa (Qv 67) (Qg 5 (Qn 9)),Qa (Qv 68) (Qf 1 false (Qn 67)),Qa (Qv 69) (Qd (Qn 4)),Qa (Qv 70) (Qd (Qn 10)),Qa (Qv 71) (Qd (Qn 12)),Qa (Qv 72) (Qj 1 (Qn 70) (Qn 71)),Qa (Qv 73) (Qf 1 false (Qn 72)),Qa (Qv 74) (Qh 78 [(Qn 69),(Qn 73)]),Qa (Qv 75) (MOp.bslice 1 [(Qr Qu 0)] 1 [(0,(Qn 74))]),Qa (Qv 76) (MOp.app 3 1 8 (Qn 68) (Qn 75)),Qa (Qv 77) (Qg 5 (Qn 9)),Qa none (Ql 1 (Qn 77) (Qn 76))]
def f33_c26:MC:=.reg true f33_r26
def f33_c27:MC:=.blk 3 f33_c26
def f33_r28:List MO:=[Qa (Qv 65) (Qd (Qn 12)),Qa (Qv 66) (Qe Qt Go.BinOp.add (Qn 65) (Qo (Qp (Qq (Qr Qu 1))))),Qa (Qv 12) (Qd (Qn 66))]
def f33_c28:MC:=.reg false f33_r28
def f33_c29:MC:=.seq f33_c27 f33_c28
def f33_c30:MC:=.seq f33_c25 f33_c29
def f33_c31:MC:=.loop f33_c30
def f33_c32:MC:=.blk 2 f33_c31
def f33_c33:MC:=.seq f33_c20 f33_c32
def f33_r34:List MO:=[Qa (Qv 78) (Qg 1 (Qn 6)),Qa (Qv 79) (Qf 1 false (Qn 78)),Qa (Qv 80) (Qf 6 true (Qn 9)),Qa (Qv 81) (MOp.bslice 6 [(Qr Qu 0),(Qr Qu 0),(Qr Qu 0),(D.str (ByteArray.mk #[])),(D.sl []),(D.sl [])] 1 [(0,(Qn 80))]),Qa (Qv 82) (MOp.app 66 6 88 (Qn 79) (Qn 81)),Qa (Qv 83) (Qg 1 (Qn 6)),Qa none (Ql 1 (Qn 83) (Qn 82))]
def f33_c34:MC:=.reg false f33_r34
def f33_c35:MC:=.seq f33_c33 f33_c34
def f33_c36:MC:=.seq f33_c19 f33_c35
def f33_c37:MC:=.seq f33_c18 f33_c36
def f33_c38:MC:=.seq f33_c17 f33_c37
def f33_c39:MC:=.seq f33_c16 f33_c38
def f33_c40:MC:=.blk 1 f33_c39
def f33_r41:List MO:=[Qa (Qv 27) (Qd (Qn 7)),Qa (Qv 28) (Qe Qt Go.BinOp.add (Qn 27) (Qo (Qp (Qq (Qr Qu 1))))),Qa (Qv 7) (Qd (Qn 28))]
def f33_c41:MC:=.reg false f33_r41
def f33_c42:MC:=.seq f33_c40 f33_c41
def f33_c43:MC:=.seq f33_c15 f33_c42
def f33_c44:MC:=.loop f33_c43
def f33_c45:MC:=.blk 0 f33_c44
def f33_c46:MC:=.seq f33_c10 f33_c45
def f33_r47:List MO:=[Qa (Qv 84) (Qf 2 true (Qn 6)),Qa none (Ql 2 (Qn 2) (Qn 84)),Qa (Qv 3) (Qd (Qo (Qp (Qq (Qr Qu 0)))))]
def f33_c47:MC:=.reg false f33_r47
def f33_c48:MC:=MC.ret
def f33_c49:MC:=.seq f33_c47 f33_c48
def f33_c50:MC:=.seq f33_c46 f33_c49
def f33_c51:MC:=.seq f33_c9 f33_c50
def f33_c52:MC:=.seq f33_c8 f33_c51
def f33_c53:MC:=.seq f33_c1 f33_c52
def f33_c54:MC:=.seq f33_c0 f33_c53
attribute [go_sem] f33_r0 f33_r1 f33_r2 f33_r3 f33_r9 f33_r10 f33_r11 f33_r16 f33_r17 f33_r18 f33_r19 f33_r20 f33_r21 f33_r26 f33_r28 f33_r41 f33_r47
noncomputable def f33_code : Code := (f33.body).getD .skip
theorem f33_body : f33.body = Qv f33_code := by kernel_rfl
theorem f33_tr : trC QP [1] f33_code = Qv f33_c54 := by kernel_rfl
theorem f33_rs : rsOf QP f33.results.toList = Qv [(RV.cell 2 2 true),(RV.t 3)] := by kernel_rfl
theorem f33_nt : f33.ntmps = 85 := by kernel_rfl
theorem f33_ok : callable QP 33 = true := by kernel_rfl
theorem f33_in {gp : Heap} {args : List V} {res : V} (h : G ⟨QP,gp,0,[(RV.cell 2 2 true),(RV.t 3)],fun r c => r = res /\ c = [],false⟩ [.code f33_c54,.fin] ⟨args ++ List.replicate (85 - args.length) .un,[]⟩) : Does QP gp 33 args res :=
 does_intro f33_ok func33 f33_body f33_tr f33_rs (by rw [f33_nt]; exact h)
def f36_r0:List MO:=[Qa (Qv 1) (MOp.ibox (Qn 0)),Qa (Qv 2) (Qd (Qo (Qp (Qq (Qs false)))))]
def f36_c0:MC:=.reg false f36_r0
def f36_r1:List MO:=[Qa (Qv 6) (Qf 2 true (Qn 1)),Qa (Qv 7) (Qh 32 [(Qn 6)]),Qa (Qv 5) (Qd (Qn 7)),Qa (Qv 8) (Qi (Qn 5) 0),Qa (Qv 9) (Qi (Qn 5) 1),Qa (Qv 3) (MOp.alloc [(Qr Qu 0),(D.sl [])]),Qa none (Ql 2 (Qn 3) (Qn 8)),Qa (Qv 4) (Qd (Qn 9))]
def f36_c1:MC:=.reg false f36_r1
def f36_r2:List MO:=[Qa (Qv 10) (Qd (Qn 4)),Qa (Qv 11) (Qe Qt Go.BinOp.eql (Qn 10) (Qo (Qp (Qq (Qr Qu 0))))),Qa (Qv 12) (Qd (Qn 11)),Qb 12 true (Qv 13),Qa (Qv 13) (Qf 2 true (Qn 1)),Qb 12 true (Qv 14),Qa (Qv 14) (Qf 2 true (Qn 3)),Qb 12 true (Qv 15),Qa (Qv 15) (Qh 24 [(Qn 13),(Qn 14)]),Qa (Qv 16) (Qm (Qn 12) (Qn 15) (Qo (Qp (Qq (Qs false))))),Qa (Qv 2) (Qd (Qn 16))]
def f36_c2:MC:=.reg false f36_r2
def f36_c3:MC:=MC.ret
def f36_c4:MC:=.seq f36_c2 f36_c3
def f36_c5:MC:=.seq f36_c1 f36_c4
def f36_c6:MC:=.seq f36_c0 f36_c5
attribute [go_sem] f36_r0 f36_r1 f36_r2
noncomputable def f36_code : Code := (f36.body).getD .skip
theorem f36_body : f36.body = Qv f36_code := by kernel_rfl
theorem f36_tr : trC QP [1] f36_code = Qv f36_c6 := by kernel_rfl
theorem f36_rs : rsOf QP f36.results.toList = Qv [(RV.t 2)] := by kernel_rfl
theorem f36_nt : f36.ntmps = 17 := by kernel_rfl
theorem f36_ok : callable QP 36 = true := by kernel_rfl
theorem f36_in {gp : Heap} {args : List V} {res : V} (h : G ⟨QP,gp,0,[(RV.t 2)],fun r c => r = res /\ c = [],false⟩ [.code f36_c6,.fin] ⟨args ++ List.replicate (17 - args.length) .un,[]⟩) : Does QP gp 36 args res :=
 does_intro f36_ok func36 f36_body f36_tr f36_rs (by rw [f36_nt]; exact h)
def f37_r0:List MO:=[Qa (Qv 1) (MOp.ibox (Qn 0)),Qa (Qv 2) (Qd (Qo (Qp (Qq (Qs false)))))]
def f37_c0:MC:=.reg false f37_r0
def f37_r1:List MO:=[Qa (Qv 6) (Qf 2 true (Qn 1)),Qa (Qv 7) (Qh 33 [(Qn 6)]),Qa (Qv 5) (Qd (Qn 7)),Qa (Qv 8) (Qi (Qn 5) 0),Qa (Qv 9) (Qi (Qn 5) 1),Qa (Qv 3) (MOp.alloc [(Qr Qu 0),(D.sl [])]),Qa none (Ql 2 (Qn 3) (Qn 8)),Qa (Qv 4) (Qd (Qn 9))]
def f37_c1:MC:=.reg false f37_r1
def f37_r2:List MO:=[Qa (Qv 10) (Qd (Qn 4)),Qa (Qv 11) (Qe Qt Go.BinOp.eql (Qn 10) (Qo (Qp (Qq (Qr Qu 0))))),Qa (Qv 12) (Qd (Qn 11)),Qb 12 true (Qv 13),Qa (Qv 13) (Qf 2 true (Qn 1)),Qb 12 true (Qv 14),Qa (Qv 14) (Qf 2 true (Qn 3)),Qb 12 true (Qv 15),Qa (Qv 15) (Qh 25 [(Qn 13),(Qn 14)]),Qa (Qv 16) (Qm (Qn 12) (Qn 15) (Qo (Qp (Qq (Qs false))))),Qa (Qv 2) (Qd (Qn 16))]
def f37_c2:MC:=.reg false f37_r2
def f37_c3:MC:=MC.ret
def f37_c4:MC:=.seq f37_c2 f37_c3
def f37_c5:MC:=.seq f37_c1 f37_c4
def f37_c6:MC:=.seq f37_c0 f37_c5
attribute [go_sem] f37_r0 f37_r1 f37_r2
noncomputable def f37_code : Code := (f37.body).getD .skip
theorem f37_body : f37.body = Qv f37_code := by kernel_rfl
theorem f37_tr : trC QP [1] f37_code = Qv f37_c6 := by kernel_rfl
theorem f37_rs : rsOf QP f37.results.toList = Qv [(RV.t 2)] := by kernel_rfl
theorem f37_nt : f37.ntmps = 17 := by kernel_rfl
theorem f37_ok : callable QP 37 = true := by kernel_rfl
theorem f37_in {gp : Heap} {args : List V} {res : V} (h : G ⟨QP,gp,0,[(RV.t 2)],fun r c => r = res /\ c = [],false⟩ [.code f37_c6,.fin] ⟨args ++ List.replicate (17 - args.length) .un,[]⟩) : Does QP gp 37 args res :=
 does_intro f37_ok func37 f37_body f37_tr f37_rs (by rw [f37_nt]; exact h)
def f74_r0:List MO:=[Qa (Qv 1) (MOp.ibox (Qn 0)),Qa (Qv 2) (Qd (Qo (Qp (Qq D.nilP))))]
def f74_c0:MC:=.reg false f74_r0
def f74_r1:List MO:=[Qa (Qv 3) (Qf 2 true (Qn 1)),Qa (Qv 4) MOp.mkM,Qa (Qv 5) (MOp.build [(Qr Qu 0),(D.sl []),(D.raw (Go.Value.map none))] [(0,(2,(Qn 3))),(2,(1,(Qn 4)))]),Qa (Qv 6) (MOp.box (Qn 5)),Qa (Qv 2) (Qd (Qn 6))]
def f74_c1:MC:=.reg false f74_r1
def f74_c2:MC:=MC.ret
def f74_c3:MC:=.seq f74_c1 f74_c2
def f74_c4:MC:=.seq f74_c0 f74_c3
attribute [go_sem] f74_r0 f74_r1
noncomputable def f74_code : Code := (f74.body).getD .skip
theorem f74_body : f74.body = Qv f74_code := by kernel_rfl
theorem f74_tr : trC QP [1] f74_code = Qv f74_c4 := by kernel_rfl
theorem f74_rs : rsOf QP f74.results.toList = Qv [(RV.t 2)] := by kernel_rfl
theorem f74_nt : f74.ntmps = 7 := by kernel_rfl
theorem f74_ok : callable QP 74 = true := by kernel_rfl
theorem f74_tri {gp : Heap} {args : List V} {pre : List Ch} {R : V -> List Ch -> Prop} (h : G ⟨QP,gp,pre.length,[(RV.t 2)],R,false⟩ [.code f74_c4,.fin] ⟨args ++ List.replicate (7 - args.length) .un,pre⟩) : Tri QP gp 74 args pre R :=
 tri_intro func74 f74_body f74_tr f74_rs (by rw [f74_nt]; exact h)
def f75_r0:List MO:=[Qa (Qv 2) (Qd (Qo (Qp A.nil)))]
def f75_c0:MC:=.reg false f75_r0
def f75_r1:List MO:=[Qa (Qv 3) (MOp.alloc [(D.sl [])])]
def f75_c1:MC:=.reg false f75_r1
def f75_r2:List MO:=[Qa (Qv 5) (Qd (Qn 0)),Qa (Qv 6) (Qh 108 [(Qn 5)])]
def f75_c2:MC:=.reg false f75_r2
def f75_r3:List MO:=[Qa (Qv 4) (Qd (Qn 7))]
def f75_c3:MC:=.reg false f75_r3
def f75_r4:List MO:=[Qa (Qv 8) (Qf 1 false (Qn 3)),Qa (Qv 9) (Qd (Qn 4)),Qa (Qv 10) (MOp.bslice 1 [(Qr Qu 0)] 1 [(0,(Qn 9))]),Qa (Qv 11) (MOp.app 3 1 8 (Qn 8) (Qn 10)),Qa none (Ql 1 (Qn 3) (Qn 11))]
def f75_c4:MC:=.reg false f75_r4
def f75_c5:MC:=.blk 1 f75_c4
def f75_c6:MC:=.rf (Qn 6) [7] f75_c3 f75_c5
def f75_c7:MC:=.blk 0 f75_c6
def f75_c8:MC:=.seq f75_c2 f75_c7
def f75_r9:List MO:=[Qa (Qv 12) (Qf 1 false (Qn 3)),Qa (Qv 2) (Qd (Qn 12))]
def f75_c9:MC:=.reg false f75_r9
def f75_c10:MC:=MC.ret
def f75_c11:MC:=.seq f75_c9 f75_c10
def f75_c12:MC:=.seq f75_c8 f75_c11
def f75_c13:MC:=.seq f75_c1 f75_c12
def f75_c14:MC:=.seq f75_c0 f75_c13
attribute [go_sem] f75_r0 f75_r1 f75_r2 f75_r3 f75_r4 f75_r9
noncomputable def f75_code : Code := (f75.body).getD .skip
theorem f75_body : f75.body = Qv f75_code := by kernel_rfl
theorem f75_tr : trC QP [] f75_code = Qv f75_c14 := by kernel_rfl
theorem f75_rs : rsOf QP f75.results.toList = Qv [(RV.t 2)] := by kernel_rfl
theorem f75_nt : f75.ntmps = 13 := by kernel_rfl
theorem f75_ok : callable QP 75 = true := by kernel_rfl
theorem f75_tri {gp : Heap} {args : List V} {pre : List Ch} {R : V -> List Ch -> Prop} (h : G ⟨QP,gp,pre.length,[(RV.t 2)],R,false⟩ [.code f75_c14,.fin] ⟨args ++ List.replicate (13 - args.length) .un,pre⟩) : Tri QP gp 75 args pre R :=
 tri_intro func75 f75_body f75_tr f75_rs (by rw [f75_nt]; exact h)
def f76_r0:List MO:=[Qa (Qv 3) (MOp.ibox (Qn 0)),Qa (Qv 6) (Qd (Qo (Qp A.nil)))]
def f76_c0:MC:=.reg false f76_r0
def f76_r1:List MO:=[Qa (Qv 10) (Qd (Qn 2)),Qa (Qv 11) (Qd (Qn 1)),Qa (Qv 12) (Qh 78 [(Qn 10),(Qn 11)]),Qa (Qv 13) (Qe Qt Go.BinOp.geq (Qn 12) (Qo (Qp (Qq (Qr Qu 0)))))]
def f76_c1:MC:=.reg false f76_r1
def f76_r2:List MO:=[Qa (Qv 14) (Qd (Qn 2)),Qa (Qv 6) (Qd (Qn 14))]
def f76_c2:MC:=.reg false f76_r2
def f76_c3:MC:=MC.ret
def f76_c4:MC:=.seq f76_c2 f76_c3
def f76_c5:MC:=MC.skip
def f76_c6:MC:=.cond (Qn 13) f76_c4 f76_c5
def f76_c7:MC:=.seq f76_c1 f76_c6
def f76_r8:List MO:=[Qa (Qv 15) (Qd (Qn 2)),Qa (Qv 16) (Qd (Qn 1)),Qa (Qv 17) (MOp.bslice 1 [(Qr Qu 0)] 1 [(0,(Qn 16))]),Qa (Qv 18) (MOp.app 3 1 8 (Qn 15) (Qn 17)),Qa (Qv 2) (Qd (Qn 18))]
def f76_c8:MC:=.reg false f76_r8
def f76_r9:List MO:=[Qa (Qv 20) (Qf 2 true (Qn 3)),Qa (Qv 21) (Qd (Qn 1)),Qa (Qv 22) (Qh 19 [(Qn 20),(Qn 21)]),Qa (Qv 19) (Qd (Qn 22)),Qa (Qv 23) (Qi (Qn 19) 0),Qa (Qv 24) (Qi (Qn 19) 1),Qa (Qv 7) (Qd (Qn 23)),Qa (Qv 8) (Qd (Qn 24))]
def f76_c9:MC:=.reg false f76_r9
def f76_r10:List MO:=[Qa (Qv 9) (Qd (Qo (Qp (Qq (Qr Qu 0)))))]
def f76_c10:MC:=.reg false f76_r10
def f76_r11:List MO:=[Qa (Qv 25) (Qd (Qn 9)),Qa (Qv 26) (Qd (Qn 7)),Qa (Qv 27) (Qk Qt (Qn 26)),Qa (Qv 28) (Qe Qt Go.BinOp.lss (Qn 25) (Qn 27))]
def f76_c11:MC:=.reg false f76_r11
def f76_c12:MC:=MC.skip
def f76_c13:MC:=(MC.exit 0)
def f76_c14:MC:=.cond (Qn 28) f76_c12 f76_c13
def f76_c15:MC:=.seq f76_c11 f76_c14
def f76_r16:List MO:=[Qa (Qv 31) (Qf 2 true (Qn 3)),Qa (Qv 32) (Qd (Qn 7)),Qa (Qv 33) (Qd (Qn 9)),Qa (Qv 34) (Qj 1 (Qn 32) (Qn 33)),Qa (Qv 35) (Qf 1 false (Qn 34)),Qa (Qv 36) (Qd (Qn 2)),Qc (Qv 37) (Qh 76 [(Qn 31),(Qn 35),(Qn 36)]),Qa (Qv 2) (Qd (Qn 37))]
def f76_c16:MC:=.reg true f76_r16
def f76_c17:MC:=.blk 1 f76_c16
def f76_r18:List MO:=[Qa (Qv 29) (Qd (Qn 9)),Qa (Qv 30) (Qe Qt Go.BinOp.add (Qn 29) (Qo (Qp (Qq (Qr Qu 1))))),Qa (Qv 9) (Qd (Qn 30))]
def f76_c18:MC:=.reg false f76_r18
def f76_c19:MC:=.seq f76_c17 f76_c18
def f76_c20:MC:=.seq f76_c15 f76_c19
def f76_c21:MC:=.loop f76_c20
def f76_c22:MC:=.blk 0 f76_c21
def f76_c23:MC:=.seq f76_c10 f76_c22
def f76_r24:List MO:=[Qa (Qv 38) (Qd (Qn 2)),Qa (Qv 6) (Qd (Qn 38))]
def f76_c24:MC:=.reg false f76_r24
def f76_c25:MC:=MC.ret
def f76_c26:MC:=.seq f76_c24 f76_c25
def f76_c27:MC:=.seq f76_c23 f76_c26
def f76_c28:MC:=.seq f76_c9 f76_c27
def f76_c29:MC:=.seq f76_c8 f76_c28
def f76_c30:MC:=.seq f76_c7 f76_c29
def f76_c31:MC:=.seq f76_c0 f76_c30
attribute [go_sem] f76_r0 f76_r1 f76_r2 f76_r8 f76_r9 f76_r10 f76_r11 f76_r16 f76_r18 f76_r24
noncomputable def f76_code : Code := (f76.body).getD .skip
theorem f76_body : f76.body = Qv f76_code := by kernel_rfl
theorem f76_tr : trC QP [3] f76_code = Qv f76_c31 := by kernel_rfl
theorem f76_rs : rsOf QP f76.results.toList = Qv [(RV.t 6)] := by kernel_rfl
theorem f76_nt : f76.ntmps = 39 := by kernel_rfl
theorem f76_ok : callable QP 76 = true := by kernel_rfl
theorem f76_tri {gp : Heap} {args : List V} {pre : List Ch} {R : V -> List Ch -> Prop} (h : G ⟨QP,gp,pre.length,[(RV.t 6)],R,false⟩ [.code f76_c31,.fin] ⟨args ++ List.replicate (39 - args.length) .un,pre⟩) : Tri QP gp 76 args pre R :=
 tri_intro func76 f76_body f76_tr f76_rs (by rw [f76_nt]; exact h)
def f77_r0:List MO:=[Qa (Qv 4) (Qd (Qo (Qp A.nil)))]
def f77_c0:MC:=.reg false f77_r0
def f77_r1:List MO:=[Qa (Qv 8) (Qd (Qn 1)),Qa (Qv 9) (Qk Qt (Qn 8)),Qa (Qv 10) (MOp.mkS 1 8 [(Qr Qu 0)] (Qn 9)),Qa (Qv 5) (Qd (Qn 10))]
def f77_c1:MC:=.reg false f77_r1
def f77_r2:List MO:=[Qa (Qv 11) (Qd (Qn 5)),Qa (Qv 12) (Qd (Qn 1)),Qa (Qv 13) (MOp.cpy 1 (Qn 11) (Qn 12))]
def f77_c2:MC:=.reg false f77_r2
def f77_r3:List MO:=[Qa (Qv 14) (Qd (Qn 5)),Qa (Qv 15) (Qk Qt (Qn 14)),Qa (Qv 16) (Qd (Qo (Qp (Qq (Qr Qu 0)))))]
def f77_c3:MC:=.reg false f77_r3
def f77_r4:List MO:=[Qa (Qv 17) (Qe Qt Go.BinOp.lss (Qn 16) (Qn 15))]
def f77_c4:MC:=.reg false f77_r4
def f77_c5:MC:=MC.skip
def f77_c6:MC:=(MC.exit 0)
def f77_c7:MC:=.cond (Qn 17) f77_c5 f77_c6
def f77_r8:List MO:=[Qa (Qv 18) (Qd (Qn 16)),Qa (Qv 19) (Qj 1 (Qn 14) (Qn 16)),Qa (Qv 20) (Qf 1 false (Qn 19)),Qa (Qv 6) (Qd (Qn 18)),Qa (Qv 7) (Qd (Qn 20))]
def f77_c8:MC:=.reg false f77_r8
def f77_r9:List MO:=[Qa (Qv 21) (Qd (Qn 5)),Qa (Qv 22) (Qd (Qn 6)),Qa (Qv 23) (Qd (Qn 0)),Qa (Qv 24) (MOp.nck (Qn 23)),Qa (Qv 25) (Qg 2 (Qn 24)),Qa (Qv 26) (Qf 1 false (Qn 25)),Qa (Qv 27) (Qd (Qn 7)),Qa (Qv 28) (MOp.lkp false (Qp (Qq (Qr Qu 0))) false [Qt] (Qn 26) (Qn 27)),Qa (Qv 29) (Qj 1 (Qn 21) (Qn 22)),Qa none (Ql 1 (Qn 29) (Qn 28))]
def f77_c9:MC:=.reg false f77_r9
def f77_c10:MC:=.seq f77_c8 f77_c9
def f77_c11:MC:=.blk 1 f77_c10
def f77_r12:List MO:=[Qa (Qv 30) (Qe Qt Go.BinOp.add (Qn 16) (Qo (Qp (Qq (Qr Qu 1))))),Qa (Qv 16) (Qd (Qn 30))]
def f77_c12:MC:=.reg false f77_r12
def f77_c13:MC:=.seq f77_c11 f77_c12
def f77_c14:MC:=.seq f77_c7 f77_c13
def f77_c15:MC:=.seq f77_c4 f77_c14
def f77_c16:MC:=.loop f77_c15
def f77_c17:MC:=.blk 0 f77_c16
def f77_c18:MC:=.seq f77_c3 f77_c17
def f77_r19:List MO:=[Qa (Qv 31) (Qd (Qn 5)),Qa (Qv 4) (Qd (Qn 31))]
def f77_c19:MC:=.reg false f77_r19
def f77_c20:MC:=MC.ret
def f77_c21:MC:=.seq f77_c19 f77_c20
def f77_c22:MC:=.seq f77_c18 f77_c21
def f77_c23:MC:=.seq f77_c2 f77_c22
def f77_c24:MC:=.seq f77_c1 f77_c23
def f77_c25:MC:=.seq f77_c0 f77_c24
attribute [go_sem] f77_r0 f77_r1 f77_r2 f77_r3 f77_r4 f77_r8 f77_r9 f77_r12
noncomputable def f77_code : Code := (f77.body).getD .skip
theorem f77_body : f77.body = Qv f77_code := by kernel_rfl
theorem f77_tr : trC QP [] f77_code = Qv f77_c25 := by kernel_rfl
theorem f77_rs : rsOf QP f77.results.toList = Qv [(RV.t 4)] := by kernel_rfl
theorem f77_nt : f77.ntmps = 32 := by kernel_rfl
theorem f77_ok : callable QP 77 = true := by kernel_rfl
theorem f77_tri {gp : Heap} {args : List V} {pre : List Ch} {R : V -> List Ch -> Prop} (h : G ⟨QP,gp,pre.length,[(RV.t 4)],R,false⟩ [.code f77_c25,.fin] ⟨args ++ List.replicate (32 - args.length) .un,pre⟩) : Tri QP gp 77 args pre R :=
 tri_intro func77 f77_body f77_tr f77_rs (by rw [f77_nt]; exact h)
def f78_r0:List MO:=[Qa (Qv 4) (Qd (Qo (Qp (Qq (Qr Qu 0)))))]
def f78_c0:MC:=.reg false f78_r0
def f78_r1:List MO:=[Qa (Qv 5) (Qd (Qo (Qp (Qq (Qr Qu 0)))))]
def f78_c1:MC:=.reg false f78_r1
def f78_r2:List MO:=[Qa (Qv 6) (Qd (Qn 5)),Qa (Qv 7) (Qd (Qn 0)),Qa (Qv 8) (Qk Qt (Qn 7)),Qa (Qv 9) (Qe Qt Go.BinOp.lss (Qn 6) (Qn 8))]
def f78_c2:MC:=.reg false f78_r2
def f78_c3:MC:=MC.skip
def f78_c4:MC:=(MC.exit 0)
def f78_c5:MC:=.cond (Qn 9) f78_c3 f78_c4
def f78_c6:MC:=.seq f78_c2 f78_c5
def f78_r7:List MO:=[Qa (Qv 12) (Qd (Qn 0)),Qa (Qv 13) (Qd (Qn 5)),Qa (Qv 14) (Qj 1 (Qn 12) (Qn 13)),Qa (Qv 15) (Qf 1 false (Qn 14)),Qa (Qv 16) (Qd (Qn 1)),Qa (Qv 17) (Qe Qt Go.BinOp.eql (Qn 15) (Qn 16))]
def f78_c7:MC:=.reg false f78_r7
def f78_r8:List MO:=[Qa (Qv 18) (Qd (Qn 5)),Qa (Qv 4) (Qd (Qn 18))]
def f78_c8:MC:=.reg false f78_r8
def f78_c9:MC:=MC.ret
def f78_c10:MC:=.seq f78_c8 f78_c9
def f78_c11:MC:=MC.skip
def f78_c12:MC:=.cond (Qn 17) f78_c10 f78_c11
def f78_c13:MC:=.seq f78_c7 f78_c12
def f78_c14:MC:=.blk 1 f78_c13
def f78_r15:List MO:=[Qa (Qv 10) (Qd (Qn 5)),Qa (Qv 11) (Qe Qt Go.BinOp.add (Qn 10) (Qo (Qp (Qq (Qr Qu 1))))),Qa (Qv 5) (Qd (Qn 11))]
def f78_c15:MC:=.reg false f78_r15
def f78_c16:MC:=.seq f78_c14 f78_c15
def f78_c17:MC:=.seq f78_c6 f78_c16
def f78_c18:MC:=.loop f78_c17
def f78_c19:MC:=.blk 0 f78_c18
def f78_c20:MC:=.seq f78_c1 f78_c19
def f78_r21:List MO:=[Qa (Qv 4) (Qd (Qo (Qp (Qq (Qr Qu (-1))))))]
def f78_c21:MC:=.reg false f78_r21
def f78_c22:MC:=MC.ret
def f78_c23:MC:=.seq f78_c21 f78_c22
def f78_c24:MC:=.seq f78_c20 f78_c23
def f78_c25:MC:=.seq f78_c0 f78_c24
attribute [go_sem] f78_r0 f78_r1 f78_r2 f78_r7 f78_r8 f78_r15 f78_r21
noncomputable def f78_code : Code := (f78.body).getD .skip
theorem f78_body : f78.body = Qv f78_code := by kernel_rfl
theorem f78_tr : trC QP [] f78_code = Qv f78_c25 := by kernel_rfl
theorem f78_rs : rsOf QP f78.results.toList = Qv [(RV.t 4)] := by kernel_rfl
theorem f78_nt : f78.ntmps = 19 := by kernel_rfl
theorem f78_ok : callable QP 78 = true := by kernel_rfl
theorem f78_in {gp : Heap} {args : List V} {res : V} (h : G ⟨QP,gp,0,[(RV.t 4)],fun r c => r = res /\ c = [],false⟩ [.code f78_c25,.fin] ⟨args ++ List.replicate (19 - args.length) .un,[]⟩) : Does QP gp 78 args res :=
 does_intro f78_ok func78 f78_body f78_tr f78_rs (by rw [f78_nt]; exact h)
def f108_r0:List MO:=[Qa (Qv 1) (MOp.box (Qn 0)),Qa (Qv 2) (Qd (Qo (Qp (Qq D.nilF))))]
def f108_c0:MC:=.reg false f108_r0
def f108_r1:List MO:=[Qa (Qv 3) (MOp.mkF (Go.Fn.func 134) [(Qn 1)]),Qa (Qv 2) (Qd (Qn 3))]
def f108_c1:MC:=.reg false f108_r1
def f108_c2:MC:=MC.ret
def f108_c3:MC:=.seq f108_c1 f108_c2
def f108_c4:MC:=.seq f108_c0 f108_c3
attribute [go_sem] f108_r0 f108_r1
noncomputable def f108_code : Code := (f108.body).getD .skip
theorem f108_body : f108.body = Qv f108_code := by kernel_rfl
theorem f108_tr : trC QP [] f108_code = Qv f108_c4 := by kernel_rfl
theorem f108_rs : rsOf QP f108.results.toList = Qv [(RV.t 2)] := by kernel_rfl
theorem f108_nt : f108.ntmps = 4 := by kernel_rfl
theorem f108_ok : callable QP 108 = true := by kernel_rfl
theorem f108_tri {gp : Heap} {args : List V} {pre : List Ch} {R : V -> List Ch -> Prop} (h : G ⟨QP,gp,pre.length,[(RV.t 2)],R,false⟩ [.code f108_c4,.fin] ⟨args ++ List.replicate (4 - args.length) .un,pre⟩) : Tri QP gp 108 args pre R :=
 tri_intro func108 f108_body f108_tr f108_rs (by rw [f108_nt]; exact h)
def f134_r0:List MO:=[Qa (Qv 10) (Qf 1 false (Qn 1)),Qa (Qv 11) (MOp.nck (Qn 10)),Qa (Qv 12) (Qg 0 (Qn 11)),Qa (Qv 13) (Qg 0 (Qn 12)),Qa (Qv 14) (Qf 1 false (Qn 13)),Qa (Qv 15) (MOp.bslO 1 [(Qr Qu 0)] 1 [(0,(Qn 14))]),Qa (Qv 3) (MOp.alloc [(D.sl [])]),Qa none (Ql 1 (Qn 3) (Qn 15))]
def f134_c0:MC:=.reg false f134_r0
def f134_r1:List MO:=[Qa (Qv 16) (MOp.mkF (Go.Fn.func 135) [(Qn 3)]),Qa (Qv 4) (Qd (Qn 16))]
def f134_c1:MC:=.reg false f134_r1
def f134_c2:MC:=MC.skip
def f134_r3:List MO:=[Qa (Qv 17) (Qf 1 false (Qn 3)),Qa (Qv 18) (Qk Qt (Qn 17)),Qa (Qv 19) (Qe Qt Go.BinOp.gtr (Qn 18) (Qo (Qp (Qq (Qr Qu 0)))))]
def f134_c3:MC:=.reg false f134_r3
def f134_c4:MC:=MC.skip
def f134_c5:MC:=(MC.exit 0)
def f134_c6:MC:=.cond (Qn 19) f134_c4 f134_c5
def f134_c7:MC:=.seq f134_c3 f134_c6
def f134_r8:List MO:=[Qa (Qv 20) (Qf 1 false (Qn 3)),Qa (Qv 21) (Qf 1 false (Qn 3)),Qa (Qv 22) (Qk Qt (Qn 21)),Qa (Qv 23) (Qe Qt Go.BinOp.sub (Qn 22) (Qo (Qp (Qq (Qr Qu 1))))),Qa (Qv 24) (Qj 1 (Qn 20) (Qn 23)),Qa (Qv 25) (Qf 1 false (Qn 24)),Qa (Qv 5) (Qd (Qn 25))]
def f134_c8:MC:=.reg false f134_r8
def f134_r9:List MO:=[Qa (Qv 26) (Qf 1 false (Qn 3)),Qa (Qv 27) (Qf 1 false (Qn 3)),Qa (Qv 28) (Qk Qt (Qn 27)),Qa (Qv 29) (Qe Qt Go.BinOp.sub (Qn 28) (Qo (Qp (Qq (Qr Qu 1))))),Qa (Qv 30) (MOp.slc 1 (Qn 26) none (Qv (Qn 29))),Qa none (Ql 1 (Qn 3) (Qn 30))]
def f134_c9:MC:=.reg false f134_r9
def f134_r10:List MO:=[Qa (Qv 32) (Qf 1 false (Qn 1)),Qa (Qv 33) (MOp.nck (Qn 32)),Qa (Qv 34) (Qg 2 (Qn 33)),Qa (Qv 35) (Qf 1 false (Qn 34)),Qa (Qv 36) (Qd (Qn 5)),Qa (Qv 37) (MOp.lkp true (Qp (Qq (Qr Qu 0))) false [Qt] (Qn 35) (Qn 36)),Qa (Qv 31) (Qd (Qn 37)),Qa (Qv 38) (Qi (Qn 31) 0),Qa (Qv 39) (Qi (Qn 31) 1),Qa (Qv 6) (Qd (Qn 38)),Qa (Qv 7) (Qd (Qn 39))]
def f134_c10:MC:=.reg false f134_r10
def f134_r11:List MO:=[Qa (Qv 40) (Qd (Qn 7))]
def f134_c11:MC:=.reg false f134_r11
def f134_c12:MC:=(MC.exit 1)
def f134_c13:MC:=MC.skip
def f134_c14:MC:=.cond (Qn 40) f134_c12 f134_c13
def f134_c15:MC:=.seq f134_c11 f134_c14
def f134_c16:MC:=.seq f134_c10 f134_c15
def f134_r17:List MO:=[Qa (Qv 41) (Qf 1 false (Qn 1)),Qa (Qv 42) (MOp.nck (Qn 41)),Qa (Qv 43) (Qg 2 (Qn 42)),Qa (Qv 44) (Qf 1 false (Qn 43)),Qa (Qv 45) (Qd (Qn 5)),Qa (Qv 46) (Qf 1 false (Qn 1)),Qa (Qv 47) (MOp.nck (Qn 46)),Qa (Qv 48) (Qg 2 (Qn 47)),Qa (Qv 49) (Qf 1 false (Qn 48)),Qa (Qv 50) (Qk Leaf.b (Qn 49)),Qa none (MOp.mupd false [Qt] (Qn 44) (Qn 45) (Qn 50))]
def f134_c17:MC:=.reg true f134_r17
def f134_r18:List MO:=[Qa (Qv 51) (Qd (Qn 0)),Qa (Qv 52) (Qd (Qn 5)),Qa (Qv 53) (MOp.callv (Qn 51) [(Qn 52)]),Qa (Qv 54) (MOp.not (Qn 53))]
def f134_c18:MC:=.reg false f134_r18
def f134_c19:MC:=(MC.exit 0)
def f134_c20:MC:=MC.skip
def f134_c21:MC:=.cond (Qn 54) f134_c19 f134_c20
def f134_c22:MC:=.seq f134_c18 f134_c21
def f134_r23:List MO:=[Qa (Qv 56) (Qf 1 false (Qn 1)),Qa (Qv 57) (MOp.nck (Qn 56)),Qa (Qv 58) (Qg 0 (Qn 57)),Qa (Qv 59) (Qf 2 true (Qn 58)),Qa (Qv 60) (Qd (Qn 5)),Qa (Qv 61) (Qh 18 [(Qn 59),(Qn 60)]),Qa (Qv 55) (Qd (Qn 61)),Qa (Qv 62) (Qi (Qn 55) 0),Qa (Qv 63) (Qi (Qn 55) 1),Qa (Qv 8) (Qd (Qn 62)),Qa (Qv 9) (Qd (Qn 63))]
def f134_c23:MC:=.reg false f134_r23
def f134_r24:List MO:=[Qa (Qv 64) (Qd (Qn 4)),Qa (Qv 65) (Qd (Qn 8)),Qa (Qv 66) (MOp.callv (Qn 64) [(Qn 65)])]
def f134_c24:MC:=.reg false f134_r24
def f134_c25:MC:=.seq f134_c23 f134_c24
def f134_c26:MC:=.seq f134_c22 f134_c25
def f134_c27:MC:=.seq f134_c17 f134_c26
def f134_c28:MC:=.seq f134_c16 f134_c27
def f134_c29:MC:=.seq f134_c9 f134_c28
def f134_c30:MC:=.seq f134_c8 f134_c29
def f134_c31:MC:=.blk 1 f134_c30
def f134_c32:MC:=.seq f134_c7 f134_c31
def f134_c33:MC:=.loop f134_c32
def f134_c34:MC:=.blk 0 f134_c33
def f134_c35:MC:=.seq f134_c2 f134_c34
def f134_c36:MC:=.seq f134_c1 f134_c35
def f134_c37:MC:=.seq f134_c0 f134_c36
def f134_c38:MC:=.scope f134_c37
attribute [go_sem] f134_r0 f134_r1 f134_r3 f134_r8 f134_r9 f134_r10 f134_r11 f134_r17 f134_r18 f134_r23 f134_r24
noncomputable def f134_code : Code := (f134.body).getD .skip
theorem f134_body : f134.body = Qv f134_code := by kernel_rfl
theorem f134_tr : trC QP [15] f134_code = Qv f134_c38 := by kernel_rfl
theorem f134_rs : rsOf QP f134.results.toList = Qv [] := by kernel_rfl
theorem f134_nt : f134.ntmps = 67 := by kernel_rfl
theorem f134_ok : callable QP 134 = true := by kernel_rfl
theorem f134_tri {gp : Heap} {args : List V} {pre : List Ch} {R : V -> List Ch -> Prop} (h : G ⟨QP,gp,pre.length,[],R,false⟩ [.code f134_c38,.fin] ⟨args ++ List.replicate (67 - args.length) .un,pre⟩) : Tri QP gp 134 args pre R :=
 tri_intro func134 f134_body f134_tr f134_rs (by rw [f134_nt]; exact h)
def f135_r0:List MO:=[Qa (Qv 4) (Qd (Qn 0)),Qa (Qv 5) (Qk Qt (Qn 4)),Qa (Qv 6) (Qe Qt Go.BinOp.sub (Qn 5) (Qo (Qp (Qq (Qr Qu 1))))),Qa (Qv 3) (Qd (Qn 6))]
def f135_c0:MC:=.reg false f135_r0
def f135_r1:List MO:=[Qa (Qv 7) (Qd (Qn 3)),Qa (Qv 8) (Qe Qt Go.BinOp.geq (Qn 7) (Qo (Qp (Qq (Qr Qu 0)))))]
def f135_c1:MC:=.reg false f135_r1
def f135_c2:MC:=MC.skip
def f135_c3:MC:=(MC.exit 0)
def f135_c4:MC:=.cond (Qn 8) f135_c2 f135_c3
def f135_c5:MC:=.seq f135_c1 f135_c4
def f135_r6:List MO:=[Qa (Qv 11) (Qf 1 false (Qn 1)),Qa (Qv 12) (Qd (Qn 0)),Qa (Qv 13) (Qd (Qn 3)),Qa (Qv 14) (Qj 1 (Qn 12) (Qn 13)),Qa (Qv 15) (Qf 1 false (Qn 14)),Qa (Qv 16) (MOp.bslice 1 [(Qr Qu 0)] 1 [(0,(Qn 15))]),Qa (Qv 17) (MOp.app 3 1 8 (Qn 11) (Qn 16)),Qa none (Ql 1 (Qn 1) (Qn 17))]
def f135_c6:MC:=.reg true f135_r6
def f135_c7:MC:=.blk 1 f135_c6
def f135_r8:List MO:=[Qa (Qv 9) (Qd (Qn 3)),Qa (Qv 10) (Qe Qt Go.BinOp.sub (Qn 9) (Qo (Qp (Qq (Qr Qu 1))))),Qa (Qv 3) (Qd (Qn 10))]
def f135_c8:MC:=.reg false f135_r8
def f135_c9:MC:=.seq f135_c7 f135_c8
def f135_c10:MC:=.seq f135_c5 f135_c9
def f135_c11:MC:=.loop f135_c10
def f135_c12:MC:=.blk 0 f135_c11
def f135_c13:MC:=.seq f135_c0 f135_c12
attribute [go_sem] f135_r0 f135_r1 f135_r6 f135_r8
noncomputable def f135_code : Code := (f135.body).getD .skip
theorem f135_body : f135.body = Qv f135_code := by kernel_rfl
theorem f135_tr : trC QP [] f135_code = Qv f135_c13 := by kernel_rfl
theorem f135_rs : rsOf QP f135.results.toList = Qv [] := by kernel_rfl
theorem f135_nt : f135.ntmps = 18 := by kernel_rfl
theorem f135_ok : callable QP 135 = true := by kernel_rfl
theorem f135_tri {gp : Heap} {args : List V} {pre : List Ch} {R : V -> List Ch -> Prop} (h : G ⟨QP,gp,pre.length,[],R,false⟩ [.code f135_c13,.fin] ⟨args ++ List.replicate (18 - args.length) .un,pre⟩) : Tri QP gp 135 args pre R :=
 tri_intro func135 f135_body f135_tr f135_rs (by rw [f135_nt]; exact h)
-- f136: no body
-- f137: trC none
end Go.Fw.L07
