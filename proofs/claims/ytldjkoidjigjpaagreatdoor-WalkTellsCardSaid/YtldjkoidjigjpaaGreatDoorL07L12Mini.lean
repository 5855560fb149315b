/- Small codes. -/
import Derived.Test.YtldjkoidjigjpaaGreatDoorFd
import Derived.Test.YtldjkoidjigjpaaGreatDoorProg
set_option linter.all false
namespace Go.Fw.L07
open Go Go.Fw
open Go.Proofs.Tryz renaming prog -> QP
open Go.Proofs.Tryz (f115 f116 f139 f45 f46 f47 f48 f49 f50 f51 f52 f6 f84 f85 f86 f87 f88 func115 func116 func139 func45 func46 func47 func48 func49 func50 func51 func52 func6 func84 func85 func86 func87 func88)
open Go.Fw.MO renaming op -> Qa,chk -> Qb,opx -> Qc
open Go.Fw.MOp renaming mv -> Qd,bin -> Qe,load -> Qf,fad -> Qg,call -> Qh,ext -> Qi,iad -> Qj,len -> Qk,store -> Ql,pick -> Qm
open Go.Fw.Opd renaming t -> Qn,c -> Qo
open Go.Fw.V renaming one -> Qp
open Go.Fw.A renaming d -> Qq
open Go.Fw.D renaming int -> Qr,bool -> Qs
open Go.Fw.Leaf renaming i -> Qt
open Go.IntKind renaming i64 -> Qu
open Option renaming some -> Qv
def f6_r0:List MO:=[Qa (Qv 2) (MOp.box (Qn 0)),Qa (Qv 4) (Qd (Qo (Qp (Qq (Qs false)))))]
def f6_c0:MC:=.reg false f6_r0
def f6_r1:List MO:=[Qa (Qv 18) (Qh 45 []),Qa (Qv 5) (Qd (Qn 18))]
def f6_c1:MC:=.reg false f6_r1
def f6_r2:List MO:=[Qa (Qv 19) (Qf 2 true (Qn 2)),Qa (Qv 20) (Qd (Qn 1)),Qa (Qv 21) (Qh 46 [(Qn 19),(Qn 20)]),Qa none (Ql 2 (Qn 2) (Qn 21))]
def f6_c2:MC:=.reg false f6_r2
def f6_r3:List MO:=[Qa (Qv 23) (Qf 2 true (Qn 2)),Qa (Qv 24) (Qh 47 [(Qn 23)]),Qa (Qv 22) (Qd (Qn 24)),Qa (Qv 25) (Qi (Qn 22) 0),Qa (Qv 26) (Qi (Qn 22) 1),Qa (Qv 6) (Qd (Qn 25)),Qa (Qv 7) (Qd (Qn 26))]
def f6_c3:MC:=.reg false f6_r3
def f6_r4:List MO:=[Qa (Qv 28) (Qf 2 true (Qn 2)),Qa (Qv 29) (Qh 48 [(Qn 28)]),Qa (Qv 27) (Qd (Qn 29)),Qa (Qv 30) (Qi (Qn 27) 0),Qa (Qv 31) (Qi (Qn 27) 1),Qa (Qv 8) (Qd (Qn 30)),Qa (Qv 9) (Qd (Qn 31))]
def f6_c4:MC:=.reg false f6_r4
def f6_r5:List MO:=[Qa (Qv 33) (Qf 2 true (Qn 2)),Qa (Qv 34) (Qh 49 [(Qn 33)]),Qa (Qv 32) (Qd (Qn 34)),Qa (Qv 35) (Qi (Qn 32) 0),Qa (Qv 36) (Qi (Qn 32) 1),Qa (Qv 10) (Qd (Qn 35)),Qa (Qv 11) (Qd (Qn 36))]
def f6_c5:MC:=.reg false f6_r5
def f6_r6:List MO:=[Qa (Qv 38) (Qf 2 true (Qn 2)),Qa (Qv 39) (Qh 50 [(Qn 38)]),Qa (Qv 37) (Qd (Qn 39)),Qa (Qv 40) (Qi (Qn 37) 0),Qa (Qv 41) (Qi (Qn 37) 1),Qa (Qv 12) (Qd (Qn 40)),Qa (Qv 13) (Qd (Qn 41))]
def f6_c6:MC:=.reg false f6_r6
def f6_r7:List MO:=[Qa (Qv 43) (Qf 2 true (Qn 2)),Qa (Qv 44) (Qh 51 [(Qn 43)]),Qa (Qv 42) (Qd (Qn 44)),Qa (Qv 45) (Qi (Qn 42) 0),Qa (Qv 46) (Qi (Qn 42) 1),Qa (Qv 14) (Qd (Qn 45)),Qa (Qv 15) (Qd (Qn 46))]
def f6_c7:MC:=.reg false f6_r7
def f6_r8:List MO:=[Qa (Qv 48) (Qf 2 true (Qn 2)),Qa (Qv 49) (Qh 52 [(Qn 48)]),Qa (Qv 47) (Qd (Qn 49)),Qa (Qv 50) (Qi (Qn 47) 0),Qa (Qv 51) (Qi (Qn 47) 1),Qa (Qv 16) (Qd (Qn 50)),Qa (Qv 17) (Qd (Qn 51))]
def f6_c8:MC:=.reg false f6_r8
def f6_r9:List MO:=[Qa (Qv 52) (Qd (Qn 5)),Qa (Qv 53) (Qd (Qn 52)),Qb 53 true (Qv 54),Qa (Qv 54) (Qd (Qn 6)),Qb 53 true (Qv 55),Qa (Qv 55) (Qd (Qn 8)),Qb 53 true (Qv 56),Qa (Qv 56) (Qh 26 [(Qn 54),(Qn 55)]),Qa (Qv 57) (Qm (Qn 53) (Qn 56) (Qo (Qp (Qq (Qs false))))),Qa (Qv 58) (Qd (Qn 57)),Qb 58 true (Qv 59),Qa (Qv 59) (Qd (Qn 7)),Qb 58 true (Qv 60),Qa (Qv 60) (Qd (Qn 9)),Qb 58 true (Qv 61),Qa (Qv 61) (Qe Qt Go.BinOp.eql (Qn 59) (Qn 60)),Qa (Qv 62) (Qm (Qn 58) (Qn 61) (Qo (Qp (Qq (Qs false))))),Qa (Qv 63) (Qd (Qn 62)),Qb 63 true (Qv 64),Qa (Qv 64) (Qd (Qn 10)),Qb 63 true (Qv 65),Qa (Qv 65) (Qd (Qn 12)),Qb 63 true (Qv 66),Qa (Qv 66) (Qh 26 [(Qn 64),(Qn 65)]),Qa (Qv 67) (Qm (Qn 63) (Qn 66) (Qo (Qp (Qq (Qs false))))),Qa (Qv 68) (Qd (Qn 67)),Qb 68 true (Qv 69),Qa (Qv 69) (Qd (Qn 11)),Qb 68 true (Qv 70),Qa (Qv 70) (Qd (Qn 13)),Qb 68 true (Qv 71),Qa (Qv 71) (Qe Qt Go.BinOp.eql (Qn 69) (Qn 70)),Qa (Qv 72) (Qm (Qn 68) (Qn 71) (Qo (Qp (Qq (Qs false))))),Qa (Qv 73) (Qd (Qn 72)),Qb 73 true (Qv 74),Qa (Qv 74) (Qd (Qn 14)),Qb 73 true (Qv 75),Qa (Qv 75) (Qd (Qn 16)),Qb 73 true (Qv 76),Qa (Qv 76) (Qh 26 [(Qn 74),(Qn 75)]),Qa (Qv 77) (Qm (Qn 73) (Qn 76) (Qo (Qp (Qq (Qs false))))),Qa (Qv 78) (Qd (Qn 77)),Qb 78 true (Qv 79),Qa (Qv 79) (Qd (Qn 15)),Qb 78 true (Qv 80),Qa (Qv 80) (Qd (Qn 17)),Qb 78 true (Qv 81),Qa (Qv 81) (Qe Qt Go.BinOp.eql (Qn 79) (Qn 80)),Qa (Qv 82) (Qm (Qn 78) (Qn 81) (Qo (Qp (Qq (Qs false))))),Qa (Qv 4) (Qd (Qn 82))]
def f6_c9:MC:=.reg false f6_r9
def f6_c10:MC:=MC.ret
def f6_c11:MC:=.seq f6_c9 f6_c10
def f6_c12:MC:=.seq f6_c8 f6_c11
def f6_c13:MC:=.seq f6_c7 f6_c12
def f6_c14:MC:=.seq f6_c6 f6_c13
def f6_c15:MC:=.seq f6_c5 f6_c14
def f6_c16:MC:=.seq f6_c4 f6_c15
def f6_c17:MC:=.seq f6_c3 f6_c16
def f6_c18:MC:=.seq f6_c2 f6_c17
def f6_c19:MC:=.seq f6_c1 f6_c18
def f6_c20:MC:=.seq f6_c0 f6_c19
attribute [go_sem] f6_r0 f6_r1 f6_r2 f6_r3 f6_r4 f6_r5 f6_r6 f6_r7 f6_r8 f6_r9
noncomputable def f6_code : Code := (f6.body).getD .skip
theorem f6_body : f6.body = Qv f6_code := by kernel_rfl
theorem f6_tr : trC QP [] f6_code = Qv f6_c20 := by kernel_rfl
theorem f6_rs : rsOf QP f6.results.toList = Qv [(RV.t 4)] := by kernel_rfl
theorem f6_nt : f6.ntmps = 83 := by kernel_rfl
theorem f6_ok : callable QP 6 = true := by kernel_rfl
theorem f6_in {gp : Heap} {args : List V} {res : V} (h : G ⟨QP,gp,0,[(RV.t 4)],fun r c => r = res /\ c = [],false⟩ [.code f6_c20,.fin] ⟨args ++ List.replicate (83 - args.length) .un,[]⟩) : Does QP gp 6 args res :=
 does_intro f6_ok func6 f6_body f6_tr f6_rs (by rw [f6_nt]; exact h)
def f45_r0:List MO:=[Qa (Qv 0) (Qd (Qo (Qp (Qq (Qs false)))))]
def f45_c0:MC:=.reg false f45_r0
def f45_r1:List MO:=[Qa (Qv 10) (MOp.bslice 1 [(Qr Qu 0)] 3 [(0,(Qo (Qp (Qq (Qr Qu 1))))),(1,(Qo (Qp (Qq (Qr Qu 1))))),(2,(Qo (Qp (Qq (Qr Qu 0)))))]),Qa (Qv 11) (MOp.build [(Qr Qu 0),(Qr Qu 0),(Qr Qu 0),(D.str (ByteArray.mk #[])),(D.sl []),(D.sl [])] [(0,(1,(Qo (Qp (Qq (Qr Qu 1)))))),(5,(1,(Qn 10)))]),Qa (Qv 12) (MOp.bslice 1 [(Qr Qu 0)] 1 [(0,(Qo (Qp (Qq (Qr Qu 2)))))]),Qa (Qv 13) (MOp.build [(Qr Qu 0),(Qr Qu 0),(Qr Qu 0),(D.str (ByteArray.mk #[])),(D.sl []),(D.sl [])] [(0,(1,(Qo (Qp (Qq (Qr Qu 1)))))),(5,(1,(Qn 12)))]),Qa (Qv 14) (MOp.build [(Qr Qu 0),(Qr Qu 0),(Qr Qu 0),(D.str (ByteArray.mk #[])),(D.sl []),(D.sl [])] []),Qa (Qv 15) (MOp.bslice 6 [(Qr Qu 0),(Qr Qu 0),(Qr Qu 0),(D.str (ByteArray.mk #[])),(D.sl []),(D.sl [])] 3 [(0,(Qn 11)),(1,(Qn 13)),(2,(Qn 14))]),Qa (Qv 16) (MOp.build [(Qr Qu 0),(D.sl [])] [(1,(1,(Qn 15)))]),Qa (Qv 1) (MOp.alloc [(Qr Qu 0),(D.sl [])]),Qa none (Ql 2 (Qn 1) (Qn 16))]
def f45_c1:MC:=.reg false f45_r1
def f45_r2:List MO:=[Qa (Qv 18) (Qf 2 true (Qn 1)),Qa (Qv 19) (Qh 47 [(Qn 18)]),Qa (Qv 17) (Qd (Qn 19)),Qa (Qv 20) (Qi (Qn 17) 0),Qa (Qv 21) (Qi (Qn 17) 1),Qa (Qv 2) (Qd (Qn 20)),Qa (Qv 3) (Qd (Qn 21))]
def f45_c2:MC:=.reg false f45_r2
def f45_r3:List MO:=[Qa (Qv 23) (Qf 2 true (Qn 1)),Qa (Qv 24) (Qh 49 [(Qn 23)]),Qa (Qv 22) (Qd (Qn 24)),Qa (Qv 25) (Qi (Qn 22) 0),Qa (Qv 26) (Qi (Qn 22) 1),Qa (Qv 4) (Qd (Qn 25)),Qa (Qv 5) (Qd (Qn 26))]
def f45_c3:MC:=.reg false f45_r3
def f45_r4:List MO:=[Qa (Qv 28) (Qf 2 true (Qn 1)),Qa (Qv 29) (Qh 51 [(Qn 28)]),Qa (Qv 27) (Qd (Qn 29)),Qa (Qv 30) (Qi (Qn 27) 0),Qa (Qv 31) (Qi (Qn 27) 1),Qa (Qv 6) (Qd (Qn 30)),Qa (Qv 7) (Qd (Qn 31))]
def f45_c4:MC:=.reg false f45_r4
def f45_r5:List MO:=[Qa (Qv 33) (Qg 1 (Qn 1)),Qa (Qv 34) (Qf 1 false (Qn 33)),Qa (Qv 35) (MOp.build [(Qr Qu 0),(D.sl [])] [(0,(1,(Qo (Qp (Qq (Qr Qu 1)))))),(1,(1,(Qn 34)))]),Qa (Qv 36) (Qh 47 [(Qn 35)]),Qa (Qv 32) (Qd (Qn 36)),Qa (Qv 37) (Qi (Qn 32) 0),Qa (Qv 38) (Qi (Qn 32) 1),Qa (Qv 8) (Qd (Qn 37)),Qa (Qv 9) (Qd (Qn 38))]
def f45_c5:MC:=.reg false f45_r5
def f45_r6:List MO:=[Qa (Qv 39) (Qd (Qn 3)),Qa (Qv 40) (Qe Qt Go.BinOp.eql (Qn 39) (Qo (Qp (Qq (Qr Qu 0))))),Qa (Qv 41) (Qd (Qn 40)),Qb 41 true (Qv 42),Qa (Qv 42) (Qd (Qn 2)),Qb 41 true (Qv 43),Qa (Qv 43) (MOp.bslice 1 [(Qr Qu 0)] 3 [(0,(Qo (Qp (Qq (Qr Qu 2))))),(1,(Qo (Qp (Qq (Qr Qu 2))))),(2,(Qo (Qp (Qq (Qr Qu 1)))))]),Qb 41 true (Qv 44),Qa (Qv 44) (Qh 26 [(Qn 42),(Qn 43)]),Qa (Qv 45) (Qm (Qn 41) (Qn 44) (Qo (Qp (Qq (Qs false))))),Qa (Qv 46) (Qd (Qn 45)),Qb 46 true (Qv 47),Qa (Qv 47) (Qd (Qn 5)),Qb 46 true (Qv 48),Qa (Qv 48) (Qe Qt Go.BinOp.eql (Qn 47) (Qo (Qp (Qq (Qr Qu 0))))),Qa (Qv 49) (Qm (Qn 46) (Qn 48) (Qo (Qp (Qq (Qs false))))),Qa (Qv 50) (Qd (Qn 49)),Qb 50 true (Qv 51),Qa (Qv 51) (Qd (Qn 4)),Qb 50 true (Qv 52),Qa (Qv 52) (MOp.bslice 1 [(Qr Qu 0)] 3 [(0,(Qo (Qp (Qq (Qr Qu 1))))),(1,(Qo (Qp (Qq (Qr Qu 2))))),(2,(Qo (Qp (Qq (Qr Qu 0)))))]),Qb 50 true (Qv 53),Qa (Qv 53) (Qh 26 [(Qn 51),(Qn 52)]),Qa (Qv 54) (Qm (Qn 50) (Qn 53) (Qo (Qp (Qq (Qs false))))),Qa (Qv 55) (Qd (Qn 54)),Qb 55 true (Qv 56),Qa (Qv 56) (Qd (Qn 7)),Qb 55 true (Qv 57),Qa (Qv 57) (Qe Qt Go.BinOp.eql (Qn 56) (Qo (Qp (Qq (Qr Qu 0))))),Qa (Qv 58) (Qm (Qn 55) (Qn 57) (Qo (Qp (Qq (Qs false))))),Qa (Qv 59) (Qd (Qn 58)),Qb 59 true (Qv 60),Qa (Qv 60) (Qd (Qn 6)),Qb 59 true (Qv 61),Qa (Qv 61) (MOp.bslice 1 [(Qr Qu 0)] 3 [(0,(Qo (Qp (Qq (Qr Qu 1))))),(1,(Qo (Qp (Qq (Qr Qu 2))))),(2,(Qo (Qp (Qq (Qr Qu 3)))))]),Qb 59 true (Qv 62),Qa (Qv 62) (Qh 26 [(Qn 60),(Qn 61)]),Qa (Qv 63) (Qm (Qn 59) (Qn 62) (Qo (Qp (Qq (Qs false))))),Qa (Qv 64) (Qd (Qn 63)),Qb 64 true (Qv 65),Qa (Qv 65) (Qd (Qn 9)),Qb 64 true (Qv 66),Qa (Qv 66) (Qe Qt Go.BinOp.eql (Qn 65) (Qo (Qp (Qq (Qr Qu 72))))),Qa (Qv 67) (Qm (Qn 64) (Qn 66) (Qo (Qp (Qq (Qs false))))),Qa (Qv 0) (Qd (Qn 67))]
def f45_c6:MC:=.reg false f45_r6
def f45_c7:MC:=MC.ret
def f45_c8:MC:=.seq f45_c6 f45_c7
def f45_c9:MC:=.seq f45_c5 f45_c8
def f45_c10:MC:=.seq f45_c4 f45_c9
def f45_c11:MC:=.seq f45_c3 f45_c10
def f45_c12:MC:=.seq f45_c2 f45_c11
def f45_c13:MC:=.seq f45_c1 f45_c12
def f45_c14:MC:=.seq f45_c0 f45_c13
attribute [go_sem] f45_r0 f45_r1 f45_r2 f45_r3 f45_r4 f45_r5 f45_r6
noncomputable def f45_code : Code := (f45.body).getD .skip
theorem f45_body : f45.body = Qv f45_code := by kernel_rfl
theorem f45_tr : trC QP [] f45_code = Qv f45_c14 := by kernel_rfl
theorem f45_rs : rsOf QP f45.results.toList = Qv [(RV.t 0)] := by kernel_rfl
theorem f45_nt : f45.ntmps = 68 := by kernel_rfl
theorem f45_ok : callable QP 45 = true := by kernel_rfl
theorem f45_in {gp : Heap} {args : List V} {res : V} (h : G ⟨QP,gp,0,[(RV.t 0)],fun r c => r = res /\ c = [],false⟩ [.code f45_c14,.fin] ⟨args ++ List.replicate (68 - args.length) .un,[]⟩) : Does QP gp 45 args res :=
 does_intro f45_ok func45 f45_body f45_tr f45_rs (by rw [f45_nt]; exact h)
def f46_r0:List MO:=[Qa (Qv 2) (MOp.box (Qn 0)),Qa (Qv 4) (MOp.alloc [(Qr Qu 0),(D.sl [])])]
def f46_c0:MC:=.reg false f46_r0
def f46_r1:List MO:=[Qa (Qv 7) (Qf 2 true (Qn 2)),Qa (Qv 8) (Qh 14 [(Qn 7)]),Qa none (Ql 2 (Qn 2) (Qn 8))]
def f46_c1:MC:=.reg false f46_r1
def f46_r2:List MO:=[Qa (Qv 10) (Qf 2 true (Qn 2)),Qa (Qv 11) (Qh 32 [(Qn 10)]),Qa (Qv 9) (Qd (Qn 11)),Qa (Qv 12) (Qi (Qn 9) 0),Qa (Qv 13) (Qi (Qn 9) 1),Qa (Qv 5) (MOp.alloc [(Qr Qu 0),(D.sl [])]),Qa none (Ql 2 (Qn 5) (Qn 12)),Qa (Qv 6) (Qd (Qn 13))]
def f46_c2:MC:=.reg false f46_r2
def f46_r3:List MO:=[Qa (Qv 14) (Qd (Qn 1)),Qa (Qv 15) (Qd (Qn 14)),Qb 15 true (Qv 16),Qa (Qv 16) (Qd (Qn 6)),Qb 15 true (Qv 17),Qa (Qv 17) (Qe Qt Go.BinOp.eql (Qn 16) (Qo (Qp (Qq (Qr Qu 0))))),Qa (Qv 18) (Qm (Qn 15) (Qn 17) (Qo (Qp (Qq (Qs false)))))]
def f46_c3:MC:=.reg false f46_r3
def f46_r4:List MO:=[Qa (Qv 19) (Qf 2 true (Qn 5)),Qa none (Ql 2 (Qn 4) (Qn 19))]
def f46_c4:MC:=.reg false f46_r4
def f46_c5:MC:=MC.ret
def f46_c6:MC:=.seq f46_c4 f46_c5
def f46_c7:MC:=MC.skip
def f46_c8:MC:=.cond (Qn 18) f46_c6 f46_c7
def f46_c9:MC:=.seq f46_c3 f46_c8
def f46_r10:List MO:=[Qa (Qv 20) (Qf 2 true (Qn 2)),Qa none (Ql 2 (Qn 4) (Qn 20))]
def f46_c10:MC:=.reg false f46_r10
def f46_c11:MC:=MC.ret
def f46_c12:MC:=.seq f46_c10 f46_c11
def f46_c13:MC:=.seq f46_c9 f46_c12
def f46_c14:MC:=.seq f46_c2 f46_c13
def f46_c15:MC:=.seq f46_c1 f46_c14
def f46_c16:MC:=.seq f46_c0 f46_c15
attribute [go_sem] f46_r0 f46_r1 f46_r2 f46_r3 f46_r4 f46_r10
noncomputable def f46_code : Code := (f46.body).getD .skip
theorem f46_body : f46.body = Qv f46_code := by kernel_rfl
theorem f46_tr : trC QP [] f46_code = Qv f46_c16 := by kernel_rfl
theorem f46_rs : rsOf QP f46.results.toList = Qv [(RV.cell 4 2 true)] := by kernel_rfl
theorem f46_nt : f46.ntmps = 21 := by kernel_rfl
theorem f46_ok : callable QP 46 = true := by kernel_rfl
theorem f46_in {gp : Heap} {args : List V} {res : V} (h : G ⟨QP,gp,0,[(RV.cell 4 2 true)],fun r c => r = res /\ c = [],false⟩ [.code f46_c16,.fin] ⟨args ++ List.replicate (21 - args.length) .un,[]⟩) : Does QP gp 46 args res :=
 does_intro f46_ok func46 f46_body f46_tr f46_rs (by rw [f46_nt]; exact h)
def f47_r0:List MO:=[Qa (Qv 1) (MOp.ibox (Qn 0)),Qa (Qv 2) (Qd (Qo (Qp A.nil))),Qa (Qv 3) (Qd (Qo (Qp (Qq (Qr Qu 0)))))]
def f47_c0:MC:=.reg false f47_r0
def f47_r1:List MO:=[Qa (Qv 7) (Qf 2 true (Qn 1)),Qa (Qv 8) (Qh 84 [(Qn 7)]),Qa (Qv 6) (Qd (Qn 8)),Qa (Qv 9) (Qi (Qn 6) 0),Qa (Qv 10) (Qi (Qn 6) 1),Qa (Qv 4) (Qd (Qn 9)),Qa (Qv 5) (Qd (Qn 10))]
def f47_c1:MC:=.reg false f47_r1
def f47_r2:List MO:=[Qa (Qv 11) (Qd (Qn 5)),Qa (Qv 12) (Qe Qt Go.BinOp.neq (Qn 11) (Qo (Qp (Qq (Qr Qu 0)))))]
def f47_c2:MC:=.reg false f47_r2
def f47_r3:List MO:=[Qa (Qv 13) (Qd (Qn 5)),Qa (Qv 2) (Qd (Qo (Qp A.nil))),Qa (Qv 3) (Qd (Qn 13))]
def f47_c3:MC:=.reg false f47_r3
def f47_c4:MC:=MC.ret
def f47_c5:MC:=.seq f47_c3 f47_c4
def f47_c6:MC:=MC.skip
def f47_c7:MC:=.cond (Qn 12) f47_c5 f47_c6
def f47_c8:MC:=.seq f47_c2 f47_c7
def f47_r9:List MO:=[Qa (Qv 14) (Qd (Qn 4)),Qa (Qv 15) (Qh 85 [(Qn 14)]),Qa (Qv 2) (Qd (Qn 15)),Qa (Qv 3) (Qd (Qo (Qp (Qq (Qr Qu 0)))))]
def f47_c9:MC:=.reg false f47_r9
def f47_c10:MC:=MC.ret
def f47_c11:MC:=.seq f47_c9 f47_c10
def f47_c12:MC:=.seq f47_c8 f47_c11
def f47_c13:MC:=.seq f47_c1 f47_c12
def f47_c14:MC:=.seq f47_c0 f47_c13
attribute [go_sem] f47_r0 f47_r2 f47_r3 f47_r9
noncomputable def f47_code : Code := (f47.body).getD .skip
theorem f47_body : f47.body = Qv f47_code := by kernel_rfl
theorem f47_tr : trC QP [1] f47_code = Qv f47_c14 := by kernel_rfl
theorem f47_rs : rsOf QP f47.results.toList = Qv [(RV.t 2),(RV.t 3)] := by kernel_rfl
theorem f47_nt : f47.ntmps = 16 := by kernel_rfl
theorem f47_ok : callable QP 47 = true := by kernel_rfl
theorem f47_in {gp : Heap} {args : List V} {res : V} (h : G ⟨QP,gp,0,[(RV.t 2),(RV.t 3)],fun r c => r = res /\ c = [],false⟩ [.code f47_c14,.fin] ⟨args ++ List.replicate (16 - args.length) .un,[]⟩) : Does QP gp 47 args res :=
 does_intro f47_ok func47 f47_body f47_tr f47_rs (by rw [f47_nt]; exact h)
def f48_r0:List MO:=[Qa (Qv 1) (MOp.ibox (Qn 0)),Qa (Qv 2) (Qd (Qo (Qp A.nil))),Qa (Qv 3) (Qd (Qo (Qp (Qq (Qr Qu 0)))))]
def f48_c0:MC:=.reg false f48_r0
def f48_r1:List MO:=[Qa (Qv 9) (Qf 2 true (Qn 1)),Qa (Qv 10) (Qh 37 [(Qn 9)]),Qa (Qv 11) (MOp.not (Qn 10))]
def f48_c1:MC:=.reg false f48_r1
def f48_r2:List MO:=[Qa (Qv 2) (Qd (Qo (Qp A.nil))),Qa (Qv 3) (Qd (Qo (Qp (Qq (Qr Qu 72)))))]
def f48_c2:MC:=.reg false f48_r2
def f48_c3:MC:=MC.ret
def f48_c4:MC:=.seq f48_c2 f48_c3
def f48_c5:MC:=MC.skip
def f48_c6:MC:=.cond (Qn 11) f48_c4 f48_c5
def f48_c7:MC:=.seq f48_c1 f48_c6
def f48_r8:List MO:=[Qa (Qv 4) (Qd (Qo (Qp A.nil)))]
def f48_c8:MC:=.reg false f48_r8
def f48_r9:List MO:=[Qa (Qv 5) (Qd (Qo (Qp (Qq (Qr Qu 0)))))]
def f48_c9:MC:=.reg false f48_r9
def f48_r10:List MO:=[Qa (Qv 12) (Qd (Qn 5)),Qa (Qv 13) (Qg 1 (Qn 1)),Qa (Qv 14) (Qf 1 false (Qn 13)),Qa (Qv 15) (Qk Qt (Qn 14)),Qa (Qv 16) (Qe Qt Go.BinOp.lss (Qn 12) (Qn 15))]
def f48_c10:MC:=.reg false f48_r10
def f48_c11:MC:=MC.skip
def f48_c12:MC:=(MC.exit 0)
def f48_c13:MC:=.cond (Qn 16) f48_c11 f48_c12
def f48_c14:MC:=.seq f48_c10 f48_c13
def f48_r15:List MO:=[Qa (Qv 6) (Qd (Qo (Qp (Qq (Qr Qu 0)))))]
def f48_c15:MC:=.reg false f48_r15
def f48_r16:List MO:=[Qa (Qv 19) (Qd (Qn 5)),Qa (Qv 20) (Qe Qt Go.BinOp.eql (Qn 19) (Qo (Qp (Qq (Qr Qu 0)))))]
def f48_c16:MC:=.reg false f48_r16
def f48_r17:List MO:=[Qa (Qv 6) (Qd (Qo (Qp (Qq (Qr Qu 1)))))]
def f48_c17:MC:=.reg false f48_r17
def f48_c18:MC:=MC.skip
def f48_c19:MC:=.cond (Qn 20) f48_c17 f48_c18
def f48_c20:MC:=.seq f48_c16 f48_c19
def f48_r21:List MO:=[Qa (Qv 7) (Qd (Qo (Qp (Qq (Qr Qu 0)))))]
def f48_c21:MC:=.reg false f48_r21
def f48_r22:List MO:=[Qa (Qv 21) (Qd (Qn 7)),Qa (Qv 22) (Qg 1 (Qn 1)),Qa (Qv 23) (Qf 1 false (Qn 22)),Qa (Qv 24) (Qk Qt (Qn 23)),Qa (Qv 25) (Qe Qt Go.BinOp.lss (Qn 21) (Qn 24))]
def f48_c22:MC:=.reg false f48_r22
def f48_c23:MC:=MC.skip
def f48_c24:MC:=(MC.exit 2)
def f48_c25:MC:=.cond (Qn 25) f48_c23 f48_c24
def f48_c26:MC:=.seq f48_c22 f48_c25
def f48_r27:List MO:=[Qa (Qv 8) (Qd (Qo (Qp (Qq (Qr Qu 0)))))]
def f48_c27:MC:=.reg false f48_r27
def f48_r28:List MO:=[Qa (Qv 28) (Qd (Qn 8)),Qa (Qv 29) (Qg 1 (Qn 1)),Qa (Qv 30) (Qf 1 false (Qn 29)),Qa (Qv 31) (Qd (Qn 7)),Qa (Qv 32) (Qj 6 (Qn 30) (Qn 31)),Qa (Qv 33) (Qg 5 (Qn 32)),Qa (Qv 34) (Qf 1 false (Qn 33)),Qa (Qv 35) (Qk Qt (Qn 34)),Qa (Qv 36) (Qe Qt Go.BinOp.lss (Qn 28) (Qn 35))]
def f48_c28:MC:=.reg false f48_r28
def f48_c29:MC:=MC.skip
def f48_c30:MC:=(MC.exit 4)
def f48_c31:MC:=.cond (Qn 36) f48_c29 f48_c30
def f48_c32:MC:=.seq f48_c28 f48_c31
def f48_r33:List MO:=[Qa (Qv 39) (Qg 1 (Qn 1)),Qa (Qv 40) (Qf 1 false (Qn 39)),Qa (Qv 41) (Qd (Qn 7)),Qa (Qv 42) (Qj 6 (Qn 40) (Qn 41)),Qa (Qv 43) (Qg 5 (Qn 42)),Qa (Qv 44) (Qf 1 false (Qn 43)),Qa (Qv 45) (Qd (Qn 8)),Qa (Qv 46) (Qj 1 (Qn 44) (Qn 45)),Qa (Qv 47) (Qf 1 false (Qn 46)),Qa (Qv 48) (Qd (Qn 5)),Qa (Qv 49) (Qe Qt Go.BinOp.eql (Qn 47) (Qn 48))]
def f48_c33:MC:=.reg false f48_r33
def f48_r34:List MO:=[Qa (Qv 50) (Qd (Qn 6)),Qa (Qv 51) (Qe Qt Go.BinOp.add (Qn 50) (Qo (Qp (Qq (Qr Qu 1))))),Qa (Qv 6) (Qd (Qn 51))]
def f48_c34:MC:=.reg false f48_r34
def f48_c35:MC:=MC.skip
def f48_c36:MC:=.cond (Qn 49) f48_c34 f48_c35
def f48_c37:MC:=.seq f48_c33 f48_c36
def f48_c38:MC:=.blk 5 f48_c37
def f48_r39:List MO:=[Qa (Qv 37) (Qd (Qn 8)),Qa (Qv 38) (Qe Qt Go.BinOp.add (Qn 37) (Qo (Qp (Qq (Qr Qu 1))))),Qa (Qv 8) (Qd (Qn 38))]
def f48_c39:MC:=.reg false f48_r39
def f48_c40:MC:=.seq f48_c38 f48_c39
def f48_c41:MC:=.seq f48_c32 f48_c40
def f48_c42:MC:=.loop f48_c41
def f48_c43:MC:=.blk 4 f48_c42
def f48_c44:MC:=.seq f48_c27 f48_c43
def f48_c45:MC:=.blk 3 f48_c44
def f48_r46:List MO:=[Qa (Qv 26) (Qd (Qn 7)),Qa (Qv 27) (Qe Qt Go.BinOp.add (Qn 26) (Qo (Qp (Qq (Qr Qu 1))))),Qa (Qv 7) (Qd (Qn 27))]
def f48_c46:MC:=.reg false f48_r46
def f48_c47:MC:=.seq f48_c45 f48_c46
def f48_c48:MC:=.seq f48_c26 f48_c47
def f48_c49:MC:=.loop f48_c48
def f48_c50:MC:=.blk 2 f48_c49
def f48_c51:MC:=.seq f48_c21 f48_c50
def f48_r52:List MO:=[Qa (Qv 52) (Qd (Qn 4)),Qa (Qv 53) (Qd (Qn 6)),Qa (Qv 54) (MOp.bslice 1 [(Qr Qu 0)] 1 [(0,(Qn 53))]),Qa (Qv 55) (MOp.app 3 1 8 (Qn 52) (Qn 54)),Qa (Qv 4) (Qd (Qn 55))]
def f48_c52:MC:=.reg false f48_r52
def f48_c53:MC:=.seq f48_c51 f48_c52
def f48_c54:MC:=.seq f48_c20 f48_c53
def f48_c55:MC:=.seq f48_c15 f48_c54
def f48_c56:MC:=.blk 1 f48_c55
def f48_r57:List MO:=[Qa (Qv 17) (Qd (Qn 5)),Qa (Qv 18) (Qe Qt Go.BinOp.add (Qn 17) (Qo (Qp (Qq (Qr Qu 1))))),Qa (Qv 5) (Qd (Qn 18))]
def f48_c57:MC:=.reg false f48_r57
def f48_c58:MC:=.seq f48_c56 f48_c57
def f48_c59:MC:=.seq f48_c14 f48_c58
def f48_c60:MC:=.loop f48_c59
def f48_c61:MC:=.blk 0 f48_c60
def f48_c62:MC:=.seq f48_c9 f48_c61
def f48_r63:List MO:=[Qa (Qv 56) (Qd (Qn 4)),Qa (Qv 2) (Qd (Qn 56)),Qa (Qv 3) (Qd (Qo (Qp (Qq (Qr Qu 0)))))]
def f48_c63:MC:=.reg false f48_r63
def f48_c64:MC:=MC.ret
def f48_c65:MC:=.seq f48_c63 f48_c64
def f48_c66:MC:=.seq f48_c62 f48_c65
def f48_c67:MC:=.seq f48_c8 f48_c66
def f48_c68:MC:=.seq f48_c7 f48_c67
def f48_c69:MC:=.seq f48_c0 f48_c68
attribute [go_sem] f48_r0 f48_r1 f48_r2 f48_r8 f48_r9 f48_r10 f48_r15 f48_r16 f48_r17 f48_r21 f48_r22 f48_r27 f48_r28 f48_r33 f48_r34 f48_r39 f48_r46 f48_r52 f48_r57 f48_r63
noncomputable def f48_code : Code := (f48.body).getD .skip
theorem f48_body : f48.body = Qv f48_code := by kernel_rfl
theorem f48_tr : trC QP [1] f48_code = Qv f48_c69 := by kernel_rfl
theorem f48_rs : rsOf QP f48.results.toList = Qv [(RV.t 2),(RV.t 3)] := by kernel_rfl
theorem f48_nt : f48.ntmps = 57 := by kernel_rfl
theorem f48_ok : callable QP 48 = true := by kernel_rfl
theorem f48_in {gp : Heap} {args : List V} {res : V} (h : G ⟨QP,gp,0,[(RV.t 2),(RV.t 3)],fun r c => r = res /\ c = [],false⟩ [.code f48_c69,.fin] ⟨args ++ List.replicate (57 - args.length) .un,[]⟩) : Does QP gp 48 args res :=
 does_intro f48_ok func48 f48_body f48_tr f48_rs (by rw [f48_nt]; exact h)
def f49_r0:List MO:=[Qa (Qv 1) (MOp.ibox (Qn 0)),Qa (Qv 2) (Qd (Qo (Qp A.nil))),Qa (Qv 3) (Qd (Qo (Qp (Qq (Qr Qu 0)))))]
def f49_c0:MC:=.reg false f49_r0
def f49_r1:List MO:=[Qa (Qv 12) (Qf 2 true (Qn 1)),Qa (Qv 13) (Qh 84 [(Qn 12)]),Qa (Qv 11) (Qd (Qn 13)),Qa (Qv 14) (Qi (Qn 11) 0),Qa (Qv 15) (Qi (Qn 11) 1),Qa (Qv 4) (Qd (Qn 14)),Qa (Qv 5) (Qd (Qn 15))]
def f49_c1:MC:=.reg false f49_r1
def f49_r2:List MO:=[Qa (Qv 16) (Qd (Qn 5)),Qa (Qv 17) (Qe Qt Go.BinOp.neq (Qn 16) (Qo (Qp (Qq (Qr Qu 0)))))]
def f49_c2:MC:=.reg false f49_r2
def f49_r3:List MO:=[Qa (Qv 18) (Qd (Qn 5)),Qa (Qv 2) (Qd (Qo (Qp A.nil))),Qa (Qv 3) (Qd (Qn 18))]
def f49_c3:MC:=.reg false f49_r3
def f49_c4:MC:=MC.ret
def f49_c5:MC:=.seq f49_c3 f49_c4
def f49_c6:MC:=MC.skip
def f49_c7:MC:=.cond (Qn 17) f49_c5 f49_c6
def f49_c8:MC:=.seq f49_c2 f49_c7
def f49_r9:List MO:=[Qa (Qv 19) (Qd (Qn 4)),Qa (Qv 20) (MOp.mkMv (Go.Fn.func 86) (Qn 19)),Qa (Qv 6) (Qd (Qn 20))]
def f49_c9:MC:=.reg false f49_r9
def f49_r10:List MO:=[Qa (Qv 21) MOp.mkM,Qa (Qv 7) (Qd (Qn 21))]
def f49_c10:MC:=.reg false f49_r10
def f49_r11:List MO:=[Qa (Qv 8) (Qd (Qo (Qp A.nil)))]
def f49_c11:MC:=.reg false f49_r11
def f49_r12:List MO:=[Qa (Qv 22) (Qd (Qn 4)),Qa (Qv 23) (Qh 85 [(Qn 22)]),Qa (Qv 24) (Qk Qt (Qn 23)),Qa (Qv 25) (Qd (Qo (Qp (Qq (Qr Qu 0)))))]
def f49_c12:MC:=.reg false f49_r12
def f49_r13:List MO:=[Qa (Qv 26) (Qe Qt Go.BinOp.lss (Qn 25) (Qn 24))]
def f49_c13:MC:=.reg false f49_r13
def f49_c14:MC:=MC.skip
def f49_c15:MC:=(MC.exit 0)
def f49_c16:MC:=.cond (Qn 26) f49_c14 f49_c15
def f49_r17:List MO:=[Qa (Qv 27) (Qd (Qn 25)),Qa (Qv 28) (Qj 1 (Qn 23) (Qn 25)),Qa (Qv 29) (Qf 1 false (Qn 28)),Qa (Qv 9) (Qd (Qn 27)),Qa (Qv 10) (Qd (Qn 29))]
def f49_c17:MC:=.reg false f49_r17
def f49_r18:List MO:=[Qa (Qv 30) (Qd (Qn 6)),Qa (Qv 31) (Qd (Qn 9)),Qa (Qv 32) (Qd (Qn 10)),Qa (Qv 33) (MOp.callv (Qn 30) [(Qn 31),(Qn 32)])]
def f49_c18:MC:=.reg false f49_r18
def f49_r19:List MO:=[Qa (Qv 34) (Qd (Qn 7)),Qa (Qv 35) (Qd (Qn 9)),Qa none (MOp.mupd false [Qt] (Qn 34) (Qn 35) (Qo (Qp (Qq (Qs true)))))]
def f49_c19:MC:=.reg false f49_r19
def f49_r20:List MO:=[Qa (Qv 36) (Qd (Qn 8)),Qa (Qv 37) (Qd (Qn 7)),Qa (Qv 38) (Qk Leaf.b (Qn 37)),Qa (Qv 39) (MOp.bslice 1 [(Qr Qu 0)] 1 [(0,(Qn 38))]),Qa (Qv 40) (MOp.app 3 1 8 (Qn 36) (Qn 39)),Qa (Qv 8) (Qd (Qn 40))]
def f49_c20:MC:=.reg false f49_r20
def f49_c21:MC:=(MC.exit 1)
def f49_c22:MC:=.seq f49_c20 f49_c21
def f49_c23:MC:=.seq f49_c19 f49_c22
def f49_c24:MC:=MC.skip
def f49_c25:MC:=.cond (Qn 33) f49_c23 f49_c24
def f49_c26:MC:=.seq f49_c18 f49_c25
def f49_r27:List MO:=[Qa (Qv 41) (Qd (Qn 8)),Qa (Qv 42) (MOp.bslice 1 [(Qr Qu 0)] 1 [(0,(Qo (Qp (Qq (Qr Qu 0)))))]),Qa (Qv 43) (MOp.app 3 1 8 (Qn 41) (Qn 42)),Qa (Qv 8) (Qd (Qn 43))]
def f49_c27:MC:=.reg false f49_r27
def f49_c28:MC:=.seq f49_c26 f49_c27
def f49_c29:MC:=.seq f49_c17 f49_c28
def f49_c30:MC:=.blk 1 f49_c29
def f49_r31:List MO:=[Qa (Qv 44) (Qe Qt Go.BinOp.add (Qn 25) (Qo (Qp (Qq (Qr Qu 1))))),Qa (Qv 25) (Qd (Qn 44))]
def f49_c31:MC:=.reg false f49_r31
def f49_c32:MC:=.seq f49_c30 f49_c31
def f49_c33:MC:=.seq f49_c16 f49_c32
def f49_c34:MC:=.seq f49_c13 f49_c33
def f49_c35:MC:=.loop f49_c34
def f49_c36:MC:=.blk 0 f49_c35
def f49_c37:MC:=.seq f49_c12 f49_c36
def f49_r38:List MO:=[Qa (Qv 45) (Qd (Qn 8)),Qa (Qv 2) (Qd (Qn 45)),Qa (Qv 3) (Qd (Qo (Qp (Qq (Qr Qu 0)))))]
def f49_c38:MC:=.reg false f49_r38
def f49_c39:MC:=MC.ret
def f49_c40:MC:=.seq f49_c38 f49_c39
def f49_c41:MC:=.seq f49_c37 f49_c40
def f49_c42:MC:=.seq f49_c11 f49_c41
def f49_c43:MC:=.seq f49_c10 f49_c42
def f49_c44:MC:=.seq f49_c9 f49_c43
def f49_c45:MC:=.seq f49_c8 f49_c44
def f49_c46:MC:=.seq f49_c1 f49_c45
def f49_c47:MC:=.seq f49_c0 f49_c46
attribute [go_sem] f49_r0 f49_r2 f49_r3 f49_r9 f49_r10 f49_r11 f49_r12 f49_r13 f49_r17 f49_r18 f49_r19 f49_r20 f49_r27 f49_r31 f49_r38
noncomputable def f49_code : Code := (f49.body).getD .skip
theorem f49_body : f49.body = Qv f49_code := by kernel_rfl
theorem f49_tr : trC QP [1] f49_code = Qv f49_c47 := by kernel_rfl
theorem f49_rs : rsOf QP f49.results.toList = Qv [(RV.t 2),(RV.t 3)] := by kernel_rfl
theorem f49_nt : f49.ntmps = 46 := by kernel_rfl
theorem f49_ok : callable QP 49 = true := by kernel_rfl
theorem f49_in {gp : Heap} {args : List V} {res : V} (h : G ⟨QP,gp,0,[(RV.t 2),(RV.t 3)],fun r c => r = res /\ c = [],false⟩ [.code f49_c47,.fin] ⟨args ++ List.replicate (46 - args.length) .un,[]⟩) : Does QP gp 49 args res :=
 does_intro f49_ok func49 f49_body f49_tr f49_rs (by rw [f49_nt]; exact h)
def f50_r0:List MO:=[Qa (Qv 1) (MOp.ibox (Qn 0)),Qa (Qv 2) (Qd (Qo (Qp A.nil))),Qa (Qv 3) (Qd (Qo (Qp (Qq (Qr Qu 0)))))]
def f50_c0:MC:=.reg false f50_r0
def f50_r1:List MO:=[Qa (Qv 10) (Qf 2 true (Qn 1)),Qa (Qv 11) (Qh 48 [(Qn 10)]),Qa (Qv 9) (Qd (Qn 11)),Qa (Qv 12) (Qi (Qn 9) 0),Qa (Qv 13) (Qi (Qn 9) 1),Qa (Qv 4) (Qd (Qn 12)),Qa (Qv 5) (Qd (Qn 13))]
def f50_c1:MC:=.reg false f50_r1
def f50_r2:List MO:=[Qa (Qv 6) (Qd (Qo (Qp A.nil)))]
def f50_c2:MC:=.reg false f50_r2
def f50_r3:List MO:=[Qa (Qv 7) (Qd (Qo (Qp (Qq (Qr Qu 0)))))]
def f50_c3:MC:=.reg false f50_r3
def f50_r4:List MO:=[Qa (Qv 8) (Qd (Qo (Qp (Qq (Qr Qu 0)))))]
def f50_c4:MC:=.reg false f50_r4
def f50_r5:List MO:=[Qa (Qv 14) (Qd (Qn 8)),Qa (Qv 15) (Qd (Qn 4)),Qa (Qv 16) (Qk Qt (Qn 15)),Qa (Qv 17) (Qe Qt Go.BinOp.lss (Qn 14) (Qn 16))]
def f50_c5:MC:=.reg false f50_r5
def f50_c6:MC:=MC.skip
def f50_c7:MC:=(MC.exit 0)
def f50_c8:MC:=.cond (Qn 17) f50_c6 f50_c7
def f50_c9:MC:=.seq f50_c5 f50_c8
def f50_r10:List MO:=[Qa (Qv 20) (Qd (Qn 4)),Qa (Qv 21) (Qd (Qn 8)),Qa (Qv 22) (Qj 1 (Qn 20) (Qn 21)),Qa (Qv 23) (Qf 1 false (Qn 22)),Qa (Qv 24) (Qe Qt Go.BinOp.gtr (Qn 23) (Qo (Qp (Qq (Qr Qu 1))))),Qa (Qv 25) (Qd (Qn 24)),Qb 25 true (Qv 26),Qa (Qv 26) (Qg 1 (Qn 1)),Qb 25 true (Qv 27),Qa (Qv 27) (Qf 1 false (Qn 26)),Qb 25 true (Qv 28),Qa (Qv 28) (Qd (Qn 8)),Qb 25 true (Qv 29),Qa (Qv 29) (Qj 6 (Qn 27) (Qn 28)),Qb 25 true (Qv 30),Qa (Qv 30) (Qg 5 (Qn 29)),Qb 25 true (Qv 31),Qa (Qv 31) (Qf 1 false (Qn 30)),Qb 25 true (Qv 32),Qa (Qv 32) (Qk Qt (Qn 31)),Qb 25 true (Qv 33),Qa (Qv 33) (Qe Qt Go.BinOp.gtr (Qn 32) (Qo (Qp (Qq (Qr Qu 0))))),Qa (Qv 34) (Qm (Qn 25) (Qn 33) (Qo (Qp (Qq (Qs false)))))]
def f50_c10:MC:=.reg false f50_r10
def f50_r11:List MO:=[Qa (Qv 35) (Qd (Qn 7)),Qa (Qv 36) (Qe Qt Go.BinOp.add (Qn 35) (Qo (Qp (Qq (Qr Qu 1))))),Qa (Qv 7) (Qd (Qn 36))]
def f50_c11:MC:=.reg false f50_r11
def f50_r12:List MO:=[Qa (Qv 37) (Qd (Qn 6)),Qa (Qv 38) (Qd (Qn 7)),Qa (Qv 39) (MOp.bslice 1 [(Qr Qu 0)] 1 [(0,(Qn 38))]),Qa (Qv 40) (MOp.app 3 1 8 (Qn 37) (Qn 39)),Qa (Qv 6) (Qd (Qn 40))]
def f50_c12:MC:=.reg false f50_r12
def f50_c13:MC:=.seq f50_c11 f50_c12
def f50_r14:List MO:=[Qa (Qv 41) (Qd (Qn 6)),Qa (Qv 42) (MOp.bslice 1 [(Qr Qu 0)] 1 [(0,(Qo (Qp (Qq (Qr Qu 0)))))]),Qa (Qv 43) (MOp.app 3 1 8 (Qn 41) (Qn 42)),Qa (Qv 6) (Qd (Qn 43))]
def f50_c14:MC:=.reg false f50_r14
def f50_c15:MC:=.cond (Qn 34) f50_c13 f50_c14
def f50_c16:MC:=.seq f50_c10 f50_c15
def f50_c17:MC:=.blk 1 f50_c16
def f50_r18:List MO:=[Qa (Qv 18) (Qd (Qn 8)),Qa (Qv 19) (Qe Qt Go.BinOp.add (Qn 18) (Qo (Qp (Qq (Qr Qu 1))))),Qa (Qv 8) (Qd (Qn 19))]
def f50_c18:MC:=.reg false f50_r18
def f50_c19:MC:=.seq f50_c17 f50_c18
def f50_c20:MC:=.seq f50_c9 f50_c19
def f50_c21:MC:=.loop f50_c20
def f50_c22:MC:=.blk 0 f50_c21
def f50_c23:MC:=.seq f50_c4 f50_c22
def f50_r24:List MO:=[Qa (Qv 44) (Qd (Qn 6)),Qa (Qv 45) (Qd (Qn 5)),Qa (Qv 2) (Qd (Qn 44)),Qa (Qv 3) (Qd (Qn 45))]
def f50_c24:MC:=.reg false f50_r24
def f50_c25:MC:=MC.ret
def f50_c26:MC:=.seq f50_c24 f50_c25
def f50_c27:MC:=.seq f50_c23 f50_c26
def f50_c28:MC:=.seq f50_c3 f50_c27
def f50_c29:MC:=.seq f50_c2 f50_c28
def f50_c30:MC:=.seq f50_c1 f50_c29
def f50_c31:MC:=.seq f50_c0 f50_c30
attribute [go_sem] f50_r0 f50_r1 f50_r2 f50_r3 f50_r4 f50_r5 f50_r10 f50_r11 f50_r12 f50_r14 f50_r18 f50_r24
noncomputable def f50_code : Code := (f50.body).getD .skip
theorem f50_body : f50.body = Qv f50_code := by kernel_rfl
theorem f50_tr : trC QP [1] f50_code = Qv f50_c31 := by kernel_rfl
theorem f50_rs : rsOf QP f50.results.toList = Qv [(RV.t 2),(RV.t 3)] := by kernel_rfl
theorem f50_nt : f50.ntmps = 46 := by kernel_rfl
theorem f50_ok : callable QP 50 = true := by kernel_rfl
theorem f50_in {gp : Heap} {args : List V} {res : V} (h : G ⟨QP,gp,0,[(RV.t 2),(RV.t 3)],fun r c => r = res /\ c = [],false⟩ [.code f50_c31,.fin] ⟨args ++ List.replicate (46 - args.length) .un,[]⟩) : Does QP gp 50 args res :=
 does_intro f50_ok func50 f50_body f50_tr f50_rs (by rw [f50_nt]; exact h)
def f51_r0:List MO:=[Qa (Qv 1) (MOp.ibox (Qn 0)),Qa (Qv 2) (Qd (Qo (Qp A.nil))),Qa (Qv 3) (Qd (Qo (Qp (Qq (Qr Qu 0)))))]
def f51_c0:MC:=.reg false f51_r0
def f51_r1:List MO:=[Qa (Qv 8) (Qf 2 true (Qn 1)),Qa (Qv 9) (Qh 84 [(Qn 8)]),Qa (Qv 7) (Qd (Qn 9)),Qa (Qv 10) (Qi (Qn 7) 0),Qa (Qv 11) (Qi (Qn 7) 1),Qa (Qv 4) (MOp.alloc [D.nilP]),Qa none (Ql 1 (Qn 4) (Qn 10)),Qa (Qv 5) (Qd (Qn 11))]
def f51_c1:MC:=.reg false f51_r1
def f51_r2:List MO:=[Qa (Qv 12) (Qd (Qn 5)),Qa (Qv 13) (Qe Qt Go.BinOp.neq (Qn 12) (Qo (Qp (Qq (Qr Qu 0)))))]
def f51_c2:MC:=.reg false f51_r2
def f51_r3:List MO:=[Qa (Qv 14) (Qd (Qn 5)),Qa (Qv 2) (Qd (Qo (Qp A.nil))),Qa (Qv 3) (Qd (Qn 14))]
def f51_c3:MC:=.reg false f51_r3
def f51_c4:MC:=MC.ret
def f51_c5:MC:=.seq f51_c3 f51_c4
def f51_c6:MC:=MC.skip
def f51_c7:MC:=.cond (Qn 13) f51_c5 f51_c6
def f51_c8:MC:=.seq f51_c2 f51_c7
def f51_r9:List MO:=[Qa (Qv 6) (MOp.alloc [D.nilF])]
def f51_c9:MC:=.reg false f51_r9
def f51_r10:List MO:=[Qa (Qv 15) (MOp.mkF (Go.Fn.func 87) [(Qn 4),(Qn 6)]),Qa none (Ql 1 (Qn 6) (Qn 15))]
def f51_c10:MC:=.reg false f51_r10
def f51_r11:List MO:=[Qa (Qv 16) (Qf 1 false (Qn 6)),Qa (Qv 17) (Qf 1 false (Qn 4)),Qa (Qv 18) (MOp.nck (Qn 17)),Qa (Qv 19) (Qg 0 (Qn 18)),Qa (Qv 20) (Qg 0 (Qn 19)),Qa (Qv 21) (Qf 1 false (Qn 20)),Qc (Qv 22) (MOp.callv (Qn 16) [(Qn 21),(Qo (Qp (Qq (Qr Qu 1))))])]
def f51_c11:MC:=.reg true f51_r11
def f51_r12:List MO:=[Qa (Qv 23) (Qf 1 false (Qn 4)),Qa (Qv 24) (MOp.nck (Qn 23)),Qa (Qv 25) (Qg 2 (Qn 24)),Qa (Qv 26) (Qf 1 false (Qn 25)),Qa (Qv 2) (Qd (Qn 26)),Qa (Qv 3) (Qd (Qo (Qp (Qq (Qr Qu 0)))))]
def f51_c12:MC:=.reg false f51_r12
def f51_c13:MC:=MC.ret
def f51_c14:MC:=.seq f51_c12 f51_c13
def f51_c15:MC:=.seq f51_c11 f51_c14
def f51_c16:MC:=.seq f51_c10 f51_c15
def f51_c17:MC:=.seq f51_c9 f51_c16
def f51_c18:MC:=.seq f51_c8 f51_c17
def f51_c19:MC:=.seq f51_c1 f51_c18
def f51_c20:MC:=.seq f51_c0 f51_c19
attribute [go_sem] f51_r0 f51_r2 f51_r3 f51_r9 f51_r10 f51_r11
noncomputable def f51_code : Code := (f51.body).getD .skip
theorem f51_body : f51.body = Qv f51_code := by kernel_rfl
theorem f51_tr : trC QP [1] f51_code = Qv f51_c20 := by kernel_rfl
theorem f51_rs : rsOf QP f51.results.toList = Qv [(RV.t 2),(RV.t 3)] := by kernel_rfl
theorem f51_nt : f51.ntmps = 27 := by kernel_rfl
theorem f51_ok : callable QP 51 = true := by kernel_rfl
theorem f51_in {gp : Heap} {args : List V} {res : V} (h : G ⟨QP,gp,0,[(RV.t 2),(RV.t 3)],fun r c => r = res /\ c = [],false⟩ [.code f51_c20,.fin] ⟨args ++ List.replicate (27 - args.length) .un,[]⟩) : Does QP gp 51 args res :=
 does_intro f51_ok func51 f51_body f51_tr f51_rs (by rw [f51_nt]; exact h)
def f52_r0:List MO:=[Qa (Qv 1) (MOp.ibox (Qn 0)),Qa (Qv 2) (Qd (Qo (Qp A.nil))),Qa (Qv 3) (Qd (Qo (Qp (Qq (Qr Qu 0)))))]
def f52_c0:MC:=.reg false f52_r0
def f52_r1:List MO:=[Qa (Qv 4) (Qf 2 true (Qn 1)),Qa (Qv 5) (Qh 37 [(Qn 4)]),Qa (Qv 6) (MOp.not (Qn 5))]
def f52_c1:MC:=.reg false f52_r1
def f52_r2:List MO:=[Qa (Qv 2) (Qd (Qo (Qp A.nil))),Qa (Qv 3) (Qd (Qo (Qp (Qq (Qr Qu 72)))))]
def f52_c2:MC:=.reg false f52_r2
def f52_c3:MC:=MC.ret
def f52_c4:MC:=.seq f52_c2 f52_c3
def f52_c5:MC:=MC.skip
def f52_c6:MC:=.cond (Qn 6) f52_c4 f52_c5
def f52_c7:MC:=.seq f52_c1 f52_c6
def f52_r8:List MO:=[Qa (Qv 7) (Qf 2 true (Qn 1)),Qa (Qv 8) (Qg 1 (Qn 1)),Qa (Qv 9) (Qf 1 false (Qn 8)),Qa (Qv 10) (Qk Qt (Qn 9)),Qa (Qv 11) (MOp.mkS 1 8 [(Qr Qu 0)] (Qn 10)),Qc (Qv 12) (Qh 88 [(Qn 7),(Qo (Qp (Qq (Qr Qu 0)))),(Qo (Qp (Qq (Qr Qu 1)))),(Qn 11)]),Qa (Qv 2) (Qd (Qn 12)),Qa (Qv 3) (Qd (Qo (Qp (Qq (Qr Qu 0)))))]
def f52_c8:MC:=.reg true f52_r8
def f52_c9:MC:=MC.ret
def f52_c10:MC:=.seq f52_c8 f52_c9
def f52_c11:MC:=.seq f52_c7 f52_c10
def f52_c12:MC:=.seq f52_c0 f52_c11
attribute [go_sem] f52_r0 f52_r1 f52_r2 f52_r8
noncomputable def f52_code : Code := (f52.body).getD .skip
theorem f52_body : f52.body = Qv f52_code := by kernel_rfl
theorem f52_tr : trC QP [1] f52_code = Qv f52_c12 := by kernel_rfl
theorem f52_rs : rsOf QP f52.results.toList = Qv [(RV.t 2),(RV.t 3)] := by kernel_rfl
theorem f52_nt : f52.ntmps = 13 := by kernel_rfl
theorem f52_ok : callable QP 52 = true := by kernel_rfl
theorem f52_in {gp : Heap} {args : List V} {res : V} (h : G ⟨QP,gp,0,[(RV.t 2),(RV.t 3)],fun r c => r = res /\ c = [],false⟩ [.code f52_c12,.fin] ⟨args ++ List.replicate (13 - args.length) .un,[]⟩) : Does QP gp 52 args res :=
 does_intro f52_ok func52 f52_body f52_tr f52_rs (by rw [f52_nt]; exact h)
def f84_r0:List MO:=[Qa (Qv 1) (MOp.ibox (Qn 0)),Qa (Qv 2) (Qd (Qo (Qp (Qq D.nilP)))),Qa (Qv 3) (Qd (Qo (Qp (Qq (Qr Qu 0)))))]
def f84_c0:MC:=.reg false f84_r0
def f84_r1:List MO:=[Qa (Qv 4) (Qf 2 true (Qn 1)),Qa (Qv 5) (Qh 36 [(Qn 4)]),Qa (Qv 6) (MOp.not (Qn 5))]
def f84_c1:MC:=.reg false f84_r1
def f84_r2:List MO:=[Qa (Qv 2) (Qd (Qo (Qp (Qq D.nilP)))),Qa (Qv 3) (Qd (Qo (Qp (Qq (Qr Qu 72)))))]
def f84_c2:MC:=.reg false f84_r2
def f84_c3:MC:=MC.ret
def f84_c4:MC:=.seq f84_c2 f84_c3
def f84_c5:MC:=MC.skip
def f84_c6:MC:=.cond (Qn 6) f84_c4 f84_c5
def f84_c7:MC:=.seq f84_c1 f84_c6
def f84_r8:List MO:=[Qa (Qv 7) (Qf 2 true (Qn 1)),Qa (Qv 8) (Qg 1 (Qn 1)),Qa (Qv 9) (Qf 1 false (Qn 8)),Qa (Qv 10) (Qk Qt (Qn 9)),Qa (Qv 11) (MOp.mkS 1 8 [(Qr Qu 0)] (Qn 10)),Qa (Qv 12) (MOp.build [(Qr Qu 0),(D.sl []),(D.sl [])] [(0,(2,(Qn 7))),(2,(1,(Qn 11)))]),Qa (Qv 13) (MOp.box (Qn 12)),Qa (Qv 2) (Qd (Qn 13)),Qa (Qv 3) (Qd (Qo (Qp (Qq (Qr Qu 0)))))]
def f84_c8:MC:=.reg true f84_r8
def f84_c9:MC:=MC.ret
def f84_c10:MC:=.seq f84_c8 f84_c9
def f84_c11:MC:=.seq f84_c7 f84_c10
def f84_c12:MC:=.seq f84_c0 f84_c11
attribute [go_sem] f84_r0 f84_r1 f84_r2 f84_r8
noncomputable def f84_code : Code := (f84.body).getD .skip
theorem f84_body : f84.body = Qv f84_code := by kernel_rfl
theorem f84_tr : trC QP [1] f84_code = Qv f84_c12 := by kernel_rfl
theorem f84_rs : rsOf QP f84.results.toList = Qv [(RV.t 2),(RV.t 3)] := by kernel_rfl
theorem f84_nt : f84.ntmps = 14 := by kernel_rfl
theorem f84_ok : callable QP 84 = true := by kernel_rfl
theorem f84_in {gp : Heap} {args : List V} {res : V} (h : G ⟨QP,gp,0,[(RV.t 2),(RV.t 3)],fun r c => r = res /\ c = [],false⟩ [.code f84_c12,.fin] ⟨args ++ List.replicate (14 - args.length) .un,[]⟩) : Does QP gp 84 args res :=
 does_intro f84_ok func84 f84_body f84_tr f84_rs (by rw [f84_nt]; exact h)
theorem f84_tri {gp : Heap} {args : List V} {pre : List Ch} {R : V -> List Ch -> Prop} (h : G ⟨QP,gp,pre.length,[(RV.t 2),(RV.t 3)],R,false⟩ [.code f84_c12,.fin] ⟨args ++ List.replicate (14 - args.length) .un,pre⟩) : Tri QP gp 84 args pre R :=
 tri_intro func84 f84_body f84_tr f84_rs (by rw [f84_nt]; exact h)
def f85_r0:List MO:=[Qa (Qv 1) (MOp.box (Qn 0)),Qa (Qv 2) (Qd (Qo (Qp A.nil)))]
def f85_c0:MC:=.reg false f85_r0
def f85_r1:List MO:=[Qa (Qv 4) (Qf 1 false (Qn 1)),Qa (Qv 5) (MOp.nck (Qn 4)),Qa (Qv 6) (Qg 2 (Qn 5)),Qa (Qv 7) (Qf 1 false (Qn 6)),Qa (Qv 8) (Qj 1 (Qn 7) (Qo (Qp (Qq (Qr Qu 0))))),Qa (Qv 9) (Qf 1 false (Qn 8)),Qa (Qv 10) (Qe Qt Go.BinOp.add (Qn 9) (Qo (Qp (Qq (Qr Qu 1))))),Qa (Qv 11) (Qj 1 (Qn 7) (Qo (Qp (Qq (Qr Qu 0))))),Qa none (Ql 1 (Qn 11) (Qn 10))]
def f85_c1:MC:=.reg false f85_r1
def f85_r2:List MO:=[Qa (Qv 12) (Qf 1 false (Qn 1)),Qa (Qv 13) (Qh 115 [(Qn 12)])]
def f85_c2:MC:=.reg false f85_r2
def f85_r3:List MO:=[Qa (Qv 3) (MOp.alloc [(Qr Qu 0),(Qr Qu 0)]),Qa none (Ql 2 (Qn 3) (Qn 14))]
def f85_c3:MC:=.reg false f85_r3
def f85_r4:List MO:=[Qa (Qv 15) (Qf 1 false (Qn 1)),Qa (Qv 16) (MOp.nck (Qn 15)),Qa (Qv 17) (Qg 2 (Qn 16)),Qa (Qv 18) (Qf 1 false (Qn 17)),Qa (Qv 19) (Qg 1 (Qn 3)),Qa (Qv 20) (Qf 1 false (Qn 19)),Qa (Qv 21) (Qj 1 (Qn 18) (Qn 20)),Qa (Qv 22) (Qf 1 false (Qn 21)),Qa (Qv 23) (Qe Qt Go.BinOp.add (Qn 22) (Qo (Qp (Qq (Qr Qu 1))))),Qa (Qv 24) (Qj 1 (Qn 18) (Qn 20)),Qa none (Ql 1 (Qn 24) (Qn 23))]
def f85_c4:MC:=.reg true f85_r4
def f85_c5:MC:=.blk 1 f85_c4
def f85_c6:MC:=.rf (Qn 13) [14] f85_c3 f85_c5
def f85_c7:MC:=.blk 0 f85_c6
def f85_c8:MC:=.seq f85_c2 f85_c7
def f85_r9:List MO:=[Qa (Qv 25) (Qf 1 false (Qn 1)),Qa (Qv 26) (MOp.nck (Qn 25)),Qa (Qv 27) (Qg 2 (Qn 26)),Qa (Qv 28) (Qf 1 false (Qn 27)),Qa (Qv 2) (Qd (Qn 28))]
def f85_c9:MC:=.reg false f85_r9
def f85_c10:MC:=MC.ret
def f85_c11:MC:=.seq f85_c9 f85_c10
def f85_c12:MC:=.seq f85_c8 f85_c11
def f85_c13:MC:=.seq f85_c1 f85_c12
def f85_c14:MC:=.seq f85_c0 f85_c13
attribute [go_sem] f85_r0 f85_r1 f85_r2 f85_r3 f85_r4 f85_r9
noncomputable def f85_code : Code := (f85.body).getD .skip
theorem f85_body : f85.body = Qv f85_code := by kernel_rfl
theorem f85_tr : trC QP [] f85_code = Qv f85_c14 := by kernel_rfl
theorem f85_rs : rsOf QP f85.results.toList = Qv [(RV.t 2)] := by kernel_rfl
theorem f85_nt : f85.ntmps = 29 := by kernel_rfl
theorem f85_ok : callable QP 85 = true := by kernel_rfl
theorem f85_tri {gp : Heap} {args : List V} {pre : List Ch} {R : V -> List Ch -> Prop} (h : G ⟨QP,gp,pre.length,[(RV.t 2)],R,false⟩ [.code f85_c14,.fin] ⟨args ++ List.replicate (29 - args.length) .un,pre⟩) : Tri QP gp 85 args pre R :=
 tri_intro func85 f85_body f85_tr f85_rs (by rw [f85_nt]; exact h)
def f86_r0:List MO:=[Qa (Qv 6) (Qd (Qo (Qp (Qq (Qs false)))))]
def f86_c0:MC:=.reg false f86_r0
def f86_r1:List MO:=[Qa (Qv 8) (Qd (Qn 0)),Qa (Qv 9) (MOp.nck (Qn 8)),Qa (Qv 10) (Qg 0 (Qn 9)),Qa (Qv 11) (Qg 1 (Qn 10)),Qa (Qv 12) (Qf 1 false (Qn 11)),Qa (Qv 13) (Qd (Qn 1)),Qa (Qv 14) (Qj 6 (Qn 12) (Qn 13)),Qa (Qv 15) (Qf 6 true (Qn 14)),Qa (Qv 7) (MOp.alloc [(Qr Qu 0),(Qr Qu 0),(Qr Qu 0),(D.str (ByteArray.mk #[])),(D.sl []),(D.sl [])]),Qa none (Ql 6 (Qn 7) (Qn 15))]
def f86_c1:MC:=.reg false f86_r1
def f86_r2:List MO:=[Qa (Qv 17) (Qh 116 []),Qa (Qv 18) (Qg 0 (Qn 7)),Qa (Qv 19) (Qf 1 false (Qn 18)),Qa (Qv 20) (MOp.idxA 3 (Qn 17) (Qn 19)),Qa (Qv 21) (MOp.not (Qn 20)),Qa (Qv 16) (Qd (Qn 21))]
def f86_c2:MC:=.reg true f86_r2
def f86_c3:MC:=(MC.exit 1)
def f86_c4:MC:=MC.skip
def f86_c5:MC:=.cond (Qn 16) f86_c3 f86_c4
def f86_c6:MC:=.seq f86_c2 f86_c5
def f86_r7:List MO:=[Qa (Qv 23) (Qg 5 (Qn 7)),Qa (Qv 24) (Qf 1 false (Qn 23)),Qa (Qv 25) (Qk Qt (Qn 24)),Qa (Qv 26) (Qe Qt Go.BinOp.eql (Qn 25) (Qo (Qp (Qq (Qr Qu 0))))),Qa (Qv 22) (Qd (Qn 26))]
def f86_c7:MC:=.reg false f86_r7
def f86_c8:MC:=(MC.exit 2)
def f86_c9:MC:=MC.skip
def f86_c10:MC:=.cond (Qn 22) f86_c8 f86_c9
def f86_c11:MC:=.seq f86_c7 f86_c10
def f86_c12:MC:=.seq f86_c6 f86_c11
def f86_c13:MC:=(MC.exit 0)
def f86_c14:MC:=.seq f86_c12 f86_c13
def f86_c15:MC:=.blk 1 f86_c14
def f86_c16:MC:=.blk 2 f86_c15
def f86_r17:List MO:=[Qa (Qv 6) (Qd (Qo (Qp (Qq (Qs false)))))]
def f86_c17:MC:=.reg false f86_r17
def f86_c18:MC:=MC.ret
def f86_c19:MC:=.seq f86_c17 f86_c18
def f86_c20:MC:=(MC.exit 0)
def f86_c21:MC:=.seq f86_c19 f86_c20
def f86_c22:MC:=.seq f86_c16 f86_c21
def f86_c23:MC:=.blk 0 f86_c22
def f86_c24:MC:=.seq f86_c1 f86_c23
def f86_r25:List MO:=[Qa (Qv 27) (Qd (Qn 2)),Qa (Qv 28) (Qe Qt Go.BinOp.gtr (Qn 27) (Qo (Qp (Qq (Qr Qu 1))))),Qa (Qv 6) (Qd (Qn 28))]
def f86_c25:MC:=.reg false f86_r25
def f86_c26:MC:=MC.ret
def f86_c27:MC:=.seq f86_c25 f86_c26
def f86_c28:MC:=.seq f86_c24 f86_c27
def f86_c29:MC:=.seq f86_c0 f86_c28
attribute [go_sem] f86_r0 f86_r1 f86_r2 f86_r7 f86_r17 f86_r25
noncomputable def f86_code : Code := (f86.body).getD .skip
theorem f86_body : f86.body = Qv f86_code := by kernel_rfl
theorem f86_tr : trC QP [] f86_code = Qv f86_c29 := by kernel_rfl
theorem f86_rs : rsOf QP f86.results.toList = Qv [(RV.t 6)] := by kernel_rfl
theorem f86_nt : f86.ntmps = 29 := by kernel_rfl
theorem f86_ok : callable QP 86 = true := by kernel_rfl
theorem f86_tri {gp : Heap} {args : List V} {pre : List Ch} {R : V -> List Ch -> Prop} (h : G ⟨QP,gp,pre.length,[(RV.t 6)],R,false⟩ [.code f86_c29,.fin] ⟨args ++ List.replicate (29 - args.length) .un,pre⟩) : Tri QP gp 86 args pre R :=
 tri_intro func86 f86_body f86_tr f86_rs (by rw [f86_nt]; exact h)
def f87_r0:List MO:=[Qa (Qv 8) (Qf 1 false (Qn 2)),Qa (Qv 9) (MOp.nck (Qn 8)),Qa (Qv 10) (Qg 2 (Qn 9)),Qa (Qv 11) (Qf 1 false (Qn 10)),Qa (Qv 12) (Qd (Qn 0)),Qa (Qv 13) (Qj 1 (Qn 11) (Qn 12)),Qa (Qv 14) (Qf 1 false (Qn 13)),Qa (Qv 15) (Qe Qt Go.BinOp.gtr (Qn 14) (Qo (Qp (Qq (Qr Qu 0)))))]
def f87_c0:MC:=.reg false f87_r0
def f87_c1:MC:=MC.ret
def f87_c2:MC:=MC.skip
def f87_c3:MC:=.cond (Qn 15) f87_c1 f87_c2
def f87_c4:MC:=.seq f87_c0 f87_c3
def f87_r5:List MO:=[Qa (Qv 16) (Qf 1 false (Qn 2)),Qa (Qv 17) (MOp.nck (Qn 16)),Qa (Qv 18) (Qg 2 (Qn 17)),Qa (Qv 19) (Qf 1 false (Qn 18)),Qa (Qv 20) (Qd (Qn 0)),Qa (Qv 21) (Qd (Qn 1)),Qa (Qv 22) (Qj 1 (Qn 19) (Qn 20)),Qa none (Ql 1 (Qn 22) (Qn 21))]
def f87_c5:MC:=.reg false f87_r5
def f87_r6:List MO:=[Qa (Qv 23) (Qf 1 false (Qn 2)),Qa (Qv 24) (MOp.nck (Qn 23)),Qa (Qv 25) (Qg 0 (Qn 24)),Qa (Qv 26) (Qg 1 (Qn 25)),Qa (Qv 27) (Qf 1 false (Qn 26)),Qa (Qv 28) (Qd (Qn 0)),Qa (Qv 29) (Qj 6 (Qn 27) (Qn 28)),Qa (Qv 30) (Qg 5 (Qn 29)),Qa (Qv 31) (Qf 1 false (Qn 30)),Qa (Qv 32) (Qk Qt (Qn 31)),Qa (Qv 33) (Qd (Qo (Qp (Qq (Qr Qu 0)))))]
def f87_c6:MC:=.reg false f87_r6
def f87_r7:List MO:=[Qa (Qv 34) (Qe Qt Go.BinOp.lss (Qn 33) (Qn 32))]
def f87_c7:MC:=.reg false f87_r7
def f87_c8:MC:=MC.skip
def f87_c9:MC:=(MC.exit 0)
def f87_c10:MC:=.cond (Qn 34) f87_c8 f87_c9
def f87_r11:List MO:=[Qa (Qv 35) (Qj 1 (Qn 31) (Qn 33)),Qa (Qv 36) (Qf 1 false (Qn 35)),Qa (Qv 7) (Qd (Qn 36))]
def f87_c11:MC:=.reg false f87_r11
def f87_r12:List MO:=[Qa (Qv 37) (Qf 1 false (Qn 3)),Qa (Qv 38) (Qd (Qn 7)),Qa (Qv 39) (Qd (Qn 1)),Qa (Qv 40) (Qe Qt Go.BinOp.add (Qn 39) (Qo (Qp (Qq (Qr Qu 1))))),Qa (Qv 41) (MOp.callv (Qn 37) [(Qn 38),(Qn 40)])]
def f87_c12:MC:=.reg false f87_r12
def f87_c13:MC:=.seq f87_c11 f87_c12
def f87_c14:MC:=.blk 1 f87_c13
def f87_r15:List MO:=[Qa (Qv 42) (Qe Qt Go.BinOp.add (Qn 33) (Qo (Qp (Qq (Qr Qu 1))))),Qa (Qv 33) (Qd (Qn 42))]
def f87_c15:MC:=.reg false f87_r15
def f87_c16:MC:=.seq f87_c14 f87_c15
def f87_c17:MC:=.seq f87_c10 f87_c16
def f87_c18:MC:=.seq f87_c7 f87_c17
def f87_c19:MC:=.loop f87_c18
def f87_c20:MC:=.blk 0 f87_c19
def f87_c21:MC:=.seq f87_c6 f87_c20
def f87_c22:MC:=.seq f87_c5 f87_c21
def f87_c23:MC:=.seq f87_c4 f87_c22
attribute [go_sem] f87_r0 f87_r5 f87_r6 f87_r7 f87_r11 f87_r12 f87_r15
noncomputable def f87_code : Code := (f87.body).getD .skip
theorem f87_body : f87.body = Qv f87_code := by kernel_rfl
theorem f87_tr : trC QP [] f87_code = Qv f87_c23 := by kernel_rfl
theorem f87_rs : rsOf QP f87.results.toList = Qv [] := by kernel_rfl
theorem f87_nt : f87.ntmps = 43 := by kernel_rfl
theorem f87_ok : callable QP 87 = true := by kernel_rfl
theorem f87_tri {gp : Heap} {args : List V} {pre : List Ch} {R : V -> List Ch -> Prop} (h : G ⟨QP,gp,pre.length,[],R,false⟩ [.code f87_c23,.fin] ⟨args ++ List.replicate (43 - args.length) .un,pre⟩) : Tri QP gp 87 args pre R :=
 tri_intro func87 f87_body f87_tr f87_rs (by rw [f87_nt]; exact h)
def f88_r0:List MO:=[Qa (Qv 4) (MOp.ibox (Qn 0)),Qa (Qv 8) (Qd (Qo (Qp A.nil)))]
def f88_c0:MC:=.reg false f88_r0
def f88_r1:List MO:=[Qa (Qv 10) (Qd (Qn 3)),Qa (Qv 11) (Qd (Qn 1)),Qa (Qv 12) (Qj 1 (Qn 10) (Qn 11)),Qa (Qv 13) (Qf 1 false (Qn 12)),Qa (Qv 14) (Qe Qt Go.BinOp.gtr (Qn 13) (Qo (Qp (Qq (Qr Qu 0)))))]
def f88_c1:MC:=.reg false f88_r1
def f88_r2:List MO:=[Qa (Qv 15) (Qd (Qn 3)),Qa (Qv 8) (Qd (Qn 15))]
def f88_c2:MC:=.reg false f88_r2
def f88_c3:MC:=MC.ret
def f88_c4:MC:=.seq f88_c2 f88_c3
def f88_c5:MC:=MC.skip
def f88_c6:MC:=.cond (Qn 14) f88_c4 f88_c5
def f88_c7:MC:=.seq f88_c1 f88_c6
def f88_r8:List MO:=[Qa (Qv 16) (Qd (Qn 3)),Qa (Qv 17) (Qd (Qn 1)),Qa (Qv 18) (Qd (Qn 2)),Qa (Qv 19) (Qj 1 (Qn 16) (Qn 17)),Qa none (Ql 1 (Qn 19) (Qn 18))]
def f88_c8:MC:=.reg false f88_r8
def f88_r9:List MO:=[Qa (Qv 9) (Qd (Qo (Qp (Qq (Qr Qu 0)))))]
def f88_c9:MC:=.reg false f88_r9
def f88_r10:List MO:=[Qa (Qv 20) (Qd (Qn 9)),Qa (Qv 21) (Qg 1 (Qn 4)),Qa (Qv 22) (Qf 1 false (Qn 21)),Qa (Qv 23) (Qd (Qn 1)),Qa (Qv 24) (Qj 6 (Qn 22) (Qn 23)),Qa (Qv 25) (Qg 5 (Qn 24)),Qa (Qv 26) (Qf 1 false (Qn 25)),Qa (Qv 27) (Qk Qt (Qn 26)),Qa (Qv 28) (Qe Qt Go.BinOp.lss (Qn 20) (Qn 27))]
def f88_c10:MC:=.reg false f88_r10
def f88_c11:MC:=MC.skip
def f88_c12:MC:=(MC.exit 0)
def f88_c13:MC:=.cond (Qn 28) f88_c11 f88_c12
def f88_c14:MC:=.seq f88_c10 f88_c13
def f88_r15:List MO:=[Qa (Qv 31) (Qf 2 true (Qn 4)),Qa (Qv 32) (Qg 1 (Qn 4)),Qa (Qv 33) (Qf 1 false (Qn 32)),Qa (Qv 34) (Qd (Qn 1)),Qa (Qv 35) (Qj 6 (Qn 33) (Qn 34)),Qa (Qv 36) (Qg 5 (Qn 35)),Qa (Qv 37) (Qf 1 false (Qn 36)),Qa (Qv 38) (Qd (Qn 9)),Qa (Qv 39) (Qj 1 (Qn 37) (Qn 38)),Qa (Qv 40) (Qf 1 false (Qn 39)),Qa (Qv 41) (Qd (Qn 2)),Qa (Qv 42) (Qe Qt Go.BinOp.add (Qn 41) (Qo (Qp (Qq (Qr Qu 1))))),Qa (Qv 43) (Qd (Qn 3)),Qc (Qv 44) (Qh 88 [(Qn 31),(Qn 40),(Qn 42),(Qn 43)]),Qa (Qv 3) (Qd (Qn 44))]
def f88_c15:MC:=.reg true f88_r15
def f88_c16:MC:=.blk 1 f88_c15
def f88_r17:List MO:=[Qa (Qv 29) (Qd (Qn 9)),Qa (Qv 30) (Qe Qt Go.BinOp.add (Qn 29) (Qo (Qp (Qq (Qr Qu 1))))),Qa (Qv 9) (Qd (Qn 30))]
def f88_c17:MC:=.reg false f88_r17
def f88_c18:MC:=.seq f88_c16 f88_c17
def f88_c19:MC:=.seq f88_c14 f88_c18
def f88_c20:MC:=.loop f88_c19
def f88_c21:MC:=.blk 0 f88_c20
def f88_c22:MC:=.seq f88_c9 f88_c21
def f88_r23:List MO:=[Qa (Qv 45) (Qd (Qn 3)),Qa (Qv 8) (Qd (Qn 45))]
def f88_c23:MC:=.reg false f88_r23
def f88_c24:MC:=MC.ret
def f88_c25:MC:=.seq f88_c23 f88_c24
def f88_c26:MC:=.seq f88_c22 f88_c25
def f88_c27:MC:=.seq f88_c8 f88_c26
def f88_c28:MC:=.seq f88_c7 f88_c27
def f88_c29:MC:=.seq f88_c0 f88_c28
attribute [go_sem] f88_r0 f88_r1 f88_r2 f88_r8 f88_r9 f88_r10 f88_r15 f88_r17 f88_r23
noncomputable def f88_code : Code := (f88.body).getD .skip
theorem f88_body : f88.body = Qv f88_code := by kernel_rfl
theorem f88_tr : trC QP [4] f88_code = Qv f88_c29 := by kernel_rfl
theorem f88_rs : rsOf QP f88.results.toList = Qv [(RV.t 8)] := by kernel_rfl
theorem f88_nt : f88.ntmps = 46 := by kernel_rfl
theorem f88_ok : callable QP 88 = true := by kernel_rfl
theorem f88_tri {gp : Heap} {args : List V} {pre : List Ch} {R : V -> List Ch -> Prop} (h : G ⟨QP,gp,pre.length,[(RV.t 8)],R,false⟩ [.code f88_c29,.fin] ⟨args ++ List.replicate (46 - args.length) .un,pre⟩) : Tri QP gp 88 args pre R :=
 tri_intro func88 f88_body f88_tr f88_rs (by rw [f88_nt]; exact h)
def f115_r0:List MO:=[Qa (Qv 1) (MOp.box (Qn 0)),Qa (Qv 2) (Qd (Qo (Qp (Qq D.nilF))))]
def f115_c0:MC:=.reg false f115_r0
def f115_r1:List MO:=[Qa (Qv 3) (MOp.mkF (Go.Fn.func 139) [(Qn 1)]),Qa (Qv 2) (Qd (Qn 3))]
def f115_c1:MC:=.reg false f115_r1
def f115_c2:MC:=MC.ret
def f115_c3:MC:=.seq f115_c1 f115_c2
def f115_c4:MC:=.seq f115_c0 f115_c3
attribute [go_sem] f115_r0 f115_r1
noncomputable def f115_code : Code := (f115.body).getD .skip
theorem f115_body : f115.body = Qv f115_code := by kernel_rfl
theorem f115_tr : trC QP [] f115_code = Qv f115_c4 := by kernel_rfl
theorem f115_rs : rsOf QP f115.results.toList = Qv [(RV.t 2)] := by kernel_rfl
theorem f115_nt : f115.ntmps = 4 := by kernel_rfl
theorem f115_ok : callable QP 115 = true := by kernel_rfl
theorem f115_tri {gp : Heap} {args : List V} {pre : List Ch} {R : V -> List Ch -> Prop} (h : G ⟨QP,gp,pre.length,[(RV.t 2)],R,false⟩ [.code f115_c4,.fin] ⟨args ++ List.replicate (4 - args.length) .un,pre⟩) : Tri QP gp 115 args pre R :=
 tri_intro func115 f115_body f115_tr f115_rs (by rw [f115_nt]; exact h)
def f116_r0:List MO:=[Qa (Qv 0) (MOp.alloc [(Qs false),(Qs false),(Qs false)])]
def f116_c0:MC:=.reg false f116_r0
def f116_r1:List MO:=[Qa (Qv 1) (MOp.build [(Qs false),(Qs false),(Qs false)] [(1,(1,(Qo (Qp (Qq (Qs true)))))),(2,(1,(Qo (Qp (Qq (Qs true))))))]),Qa none (Ql 3 (Qn 0) (Qn 1))]
def f116_c1:MC:=.reg false f116_r1
def f116_c2:MC:=MC.ret
def f116_c3:MC:=.seq f116_c1 f116_c2
def f116_c4:MC:=.seq f116_c0 f116_c3
attribute [go_sem] f116_r0 f116_r1
noncomputable def f116_code : Code := (f116.body).getD .skip
theorem f116_body : f116.body = Qv f116_code := by kernel_rfl
theorem f116_tr : trC QP [] f116_code = Qv f116_c4 := by kernel_rfl
theorem f116_rs : rsOf QP f116.results.toList = Qv [(RV.cell 0 3 true)] := by kernel_rfl
theorem f116_nt : f116.ntmps = 2 := by kernel_rfl
theorem f116_ok : callable QP 116 = true := by kernel_rfl
theorem f116_in {gp : Heap} {args : List V} {res : V} (h : G ⟨QP,gp,0,[(RV.cell 0 3 true)],fun r c => r = res /\ c = [],false⟩ [.code f116_c4,.fin] ⟨args ++ List.replicate (2 - args.length) .un,[]⟩) : Does QP gp 116 args res :=
 does_intro f116_ok func116 f116_body f116_tr f116_rs (by rw [f116_nt]; exact h)
def f139_c0:MC:=MC.skip
def f139_r1:List MO:=[Qa (Qv 7) (Qf 1 false (Qn 1)),Qa (Qv 8) (MOp.nck (Qn 7)),Qa (Qv 9) (Qg 0 (Qn 8)),Qa (Qv 10) (Qg 1 (Qn 9)),Qa (Qv 11) (Qf 1 false (Qn 10)),Qa (Qv 12) (Qk Qt (Qn 11)),Qa (Qv 13) (Qd (Qo (Qp (Qq (Qr Qu 0)))))]
def f139_c1:MC:=.reg false f139_r1
def f139_r2:List MO:=[Qa (Qv 14) (Qe Qt Go.BinOp.lss (Qn 13) (Qn 12))]
def f139_c2:MC:=.reg false f139_r2
def f139_c3:MC:=MC.skip
def f139_c4:MC:=(MC.exit 0)
def f139_c5:MC:=.cond (Qn 14) f139_c3 f139_c4
def f139_r6:List MO:=[Qa (Qv 15) (Qd (Qn 13)),Qa (Qv 16) (Qj 6 (Qn 11) (Qn 13)),Qa (Qv 17) (Qf 6 true (Qn 16)),Qa (Qv 4) (MOp.alloc [(Qr Qu 0),(Qr Qu 0),(Qr Qu 0),(D.str (ByteArray.mk #[])),(D.sl []),(D.sl [])]),Qa (Qv 3) (Qd (Qn 15)),Qa none (Ql 6 (Qn 4) (Qn 17))]
def f139_c6:MC:=.reg false f139_r6
def f139_r7:List MO:=[Qa (Qv 18) (Qg 5 (Qn 4)),Qa (Qv 19) (Qf 1 false (Qn 18)),Qa (Qv 20) (Qk Qt (Qn 19)),Qa (Qv 21) (Qd (Qo (Qp (Qq (Qr Qu 0)))))]
def f139_c7:MC:=.reg false f139_r7
def f139_r8:List MO:=[Qa (Qv 22) (Qe Qt Go.BinOp.lss (Qn 21) (Qn 20))]
def f139_c8:MC:=.reg false f139_r8
def f139_c9:MC:=MC.skip
def f139_c10:MC:=(MC.exit 2)
def f139_c11:MC:=.cond (Qn 22) f139_c9 f139_c10
def f139_r12:List MO:=[Qa (Qv 23) (Qj 1 (Qn 19) (Qn 21)),Qa (Qv 24) (Qf 1 false (Qn 23)),Qa (Qv 6) (Qd (Qn 24))]
def f139_c12:MC:=.reg false f139_r12
def f139_r13:List MO:=[Qa (Qv 25) (Qd (Qn 0)),Qa (Qv 26) (Qd (Qn 3)),Qa (Qv 27) (Qd (Qn 6)),Qa (Qv 28) (MOp.build [(Qr Qu 0),(Qr Qu 0)] [(0,(1,(Qn 26))),(1,(1,(Qn 27)))]),Qa (Qv 29) (MOp.callv (Qn 25) [(Qn 28)]),Qa (Qv 30) (MOp.not (Qn 29))]
def f139_c13:MC:=.reg false f139_r13
def f139_c14:MC:=(MC.exit 0)
def f139_c15:MC:=MC.skip
def f139_c16:MC:=.cond (Qn 30) f139_c14 f139_c15
def f139_c17:MC:=.seq f139_c13 f139_c16
def f139_c18:MC:=.seq f139_c12 f139_c17
def f139_c19:MC:=.blk 3 f139_c18
def f139_r20:List MO:=[Qa (Qv 31) (Qe Qt Go.BinOp.add (Qn 21) (Qo (Qp (Qq (Qr Qu 1))))),Qa (Qv 21) (Qd (Qn 31))]
def f139_c20:MC:=.reg false f139_r20
def f139_c21:MC:=.seq f139_c19 f139_c20
def f139_c22:MC:=.seq f139_c11 f139_c21
def f139_c23:MC:=.seq f139_c8 f139_c22
def f139_c24:MC:=.loop f139_c23
def f139_c25:MC:=.blk 2 f139_c24
def f139_c26:MC:=.seq f139_c7 f139_c25
def f139_c27:MC:=.seq f139_c6 f139_c26
def f139_c28:MC:=.blk 1 f139_c27
def f139_r29:List MO:=[Qa (Qv 32) (Qe Qt Go.BinOp.add (Qn 13) (Qo (Qp (Qq (Qr Qu 1))))),Qa (Qv 13) (Qd (Qn 32))]
def f139_c29:MC:=.reg false f139_r29
def f139_c30:MC:=.seq f139_c28 f139_c29
def f139_c31:MC:=.seq f139_c5 f139_c30
def f139_c32:MC:=.seq f139_c2 f139_c31
def f139_c33:MC:=.loop f139_c32
def f139_c34:MC:=.blk 0 f139_c33
def f139_c35:MC:=.seq f139_c1 f139_c34
def f139_c36:MC:=.seq f139_c0 f139_c35
def f139_c37:MC:=.scope f139_c36
attribute [go_sem] f139_r1 f139_r2 f139_r6 f139_r7 f139_r8 f139_r12 f139_r13 f139_r20 f139_r29
noncomputable def f139_code : Code := (f139.body).getD .skip
theorem f139_body : f139.body = Qv f139_code := by kernel_rfl
theorem f139_tr : trC QP [] f139_code = Qv f139_c37 := by kernel_rfl
theorem f139_rs : rsOf QP f139.results.toList = Qv [] := by kernel_rfl
theorem f139_nt : f139.ntmps = 33 := by kernel_rfl
theorem f139_ok : callable QP 139 = true := by kernel_rfl
theorem f139_tri {gp : Heap} {args : List V} {pre : List Ch} {R : V -> List Ch -> Prop} (h : G ⟨QP,gp,pre.length,[],R,false⟩ [.code f139_c37,.fin] ⟨args ++ List.replicate (33 - args.length) .un,pre⟩) : Tri QP gp 139 args pre R :=
 tri_intro func139 f139_body f139_tr f139_rs (by rw [f139_nt]; exact h)
end Go.Fw.L07
