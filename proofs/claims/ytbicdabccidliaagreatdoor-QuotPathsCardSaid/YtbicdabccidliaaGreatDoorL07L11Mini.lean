/- Small codes. -/
import Derived.Test.YtbicdabccidliaaGreatDoorFd
import Derived.Test.YtbicdabccidliaaGreatDoorProg
set_option linter.all false
namespace Go.Fw.L07
open Go Go.Fw
open Go.Proofs.Tryz renaming prog -> QP
open Go.Proofs.Tryz (f11 f117 f28 f29 f31 f34 f58 f59 f60 f92 f93 func11 func117 func28 func29 func31 func34 func58 func59 func60 func92 func93)
open Go.Fw.MO renaming op -> Qa,chk -> Qb,opx -> Qc
open Go.Fw.MOp renaming mv -> Qd,bin -> Qe,load -> Qf,fad -> Qg,call -> Qh,ext -> Qi,iad -> Qj,len -> Qk,store -> Ql,pick -> Qm
open Go.Fw.Opd renaming t -> Qn,c -> Qo
open Go.Fw.V renaming one -> Qp
open Go.Fw.A renaming d -> Qq
open Go.Fw.D renaming int -> Qr,bool -> Qs
open Go.Fw.Leaf renaming i -> Qt
open Go.IntKind renaming i64 -> Qu
open Option renaming some -> Qv
def f11_r0:List MO:=[Qa (Qv 2) (MOp.box (Qn 0)),Qa (Qv 4) (Qd (Qo (Qp (Qq (Qs false)))))]
def f11_c0:MC:=.reg false f11_r0
def f11_r1:List MO:=[Qa (Qv 14) (Qh 28 []),Qa (Qv 5) (Qd (Qn 14))]
def f11_c1:MC:=.reg false f11_r1
def f11_r2:List MO:=[Qa (Qv 15) (Qf 2 true (Qn 2)),Qa (Qv 16) (Qh 17 [(Qn 15),(Qo (Qp (Qq (Qr Qu 30))))]),Qa none (Ql 2 (Qn 2) (Qn 16))]
def f11_c2:MC:=.reg false f11_r2
def f11_r3:List MO:=[Qa (Qv 17) (Qd (Qn 1)),Qa (Qv 18) (Qd (Qn 1)),Qa (Qv 19) (Qk Qt (Qn 18)),Qa (Qv 20) (MOp.min (Qn 19) (Qo (Qp (Qq (Qr Qu 30))))),Qa (Qv 21) (MOp.slc 1 (Qn 17) none (Qv (Qn 20))),Qa (Qv 1) (Qd (Qn 21))]
def f11_c3:MC:=.reg false f11_r3
def f11_r4:List MO:=[Qa (Qv 23) (Qf 2 true (Qn 2)),Qa (Qv 24) (Qh 29 [(Qn 23)]),Qa (Qv 22) (Qd (Qn 24)),Qa (Qv 25) (Qi (Qn 22) 0),Qa (Qv 26) (Qi (Qn 22) 1),Qa (Qv 6) (MOp.alloc [(Qr Qu 0),(D.sl [])]),Qa none (Ql 2 (Qn 6) (Qn 25)),Qa (Qv 7) (Qd (Qn 26))]
def f11_c4:MC:=.reg false f11_r4
def f11_r5:List MO:=[Qa (Qv 28) (Qf 2 true (Qn 2)),Qa (Qv 29) (Qh 31 [(Qn 28)]),Qa (Qv 27) (Qd (Qn 29)),Qa (Qv 30) (Qi (Qn 27) 0),Qa (Qv 31) (Qi (Qn 27) 1),Qa (Qv 8) (Qd (Qn 30)),Qa (Qv 9) (Qd (Qn 31))]
def f11_c5:MC:=.reg false f11_r5
def f11_r6:List MO:=[Qa (Qv 33) (Qf 2 true (Qn 2)),Qa (Qv 34) (Qd (Qn 1)),Qa (Qv 35) (Qh 27 [(Qn 33),(Qn 34)]),Qa (Qv 32) (Qd (Qn 35)),Qa (Qv 36) (Qi (Qn 32) 0),Qa (Qv 37) (Qi (Qn 32) 1),Qa (Qv 10) (Qd (Qn 36)),Qa (Qv 11) (Qd (Qn 37))]
def f11_c6:MC:=.reg false f11_r6
def f11_r7:List MO:=[Qa (Qv 39) (Qf 2 true (Qn 6)),Qa (Qv 40) (Qd (Qn 1)),Qa (Qv 41) (Qh 27 [(Qn 39),(Qn 40)]),Qa (Qv 38) (Qd (Qn 41)),Qa (Qv 42) (Qi (Qn 38) 0),Qa (Qv 43) (Qi (Qn 38) 1),Qa (Qv 12) (Qd (Qn 42)),Qa (Qv 13) (Qd (Qn 43))]
def f11_c7:MC:=.reg false f11_r7
def f11_r8:List MO:=[Qa (Qv 44) (Qd (Qn 7)),Qa (Qv 45) (Qe Qt Go.BinOp.neq (Qn 44) (Qo (Qp (Qq (Qr Qu 0))))),Qa (Qv 46) (Qd (Qn 45)),Qb 46 false (Qv 47),Qa (Qv 47) (Qd (Qn 11)),Qb 46 false (Qv 48),Qa (Qv 48) (MOp.not (Qn 47)),Qa (Qv 49) (Qm (Qn 46) (Qo (Qp (Qq (Qs true)))) (Qn 48)),Qa (Qv 50) (Qd (Qn 49)),Qb 50 false (Qv 51),Qa (Qv 51) (Qd (Qn 13)),Qb 50 false (Qv 52),Qa (Qv 52) (MOp.not (Qn 51)),Qa (Qv 53) (Qm (Qn 50) (Qo (Qp (Qq (Qs true)))) (Qn 52)),Qa (Qv 54) (Qd (Qn 53)),Qb 54 false (Qv 55),Qa (Qv 55) (Qd (Qn 10)),Qb 54 false (Qv 56),Qa (Qv 56) (Qe Qt Go.BinOp.lss (Qn 55) (Qo (Qp (Qq (Qr Qu 0))))),Qa (Qv 57) (Qm (Qn 54) (Qo (Qp (Qq (Qs true)))) (Qn 56)),Qa (Qv 58) (Qd (Qn 57)),Qb 58 false (Qv 59),Qa (Qv 59) (Qd (Qn 10)),Qb 58 false (Qv 60),Qa (Qv 60) (Qd (Qn 8)),Qb 58 false (Qv 61),Qa (Qv 61) (Qk Qt (Qn 60)),Qb 58 false (Qv 62),Qa (Qv 62) (Qe Qt Go.BinOp.geq (Qn 59) (Qn 61)),Qa (Qv 63) (Qm (Qn 58) (Qo (Qp (Qq (Qs true)))) (Qn 62))]
def f11_c8:MC:=.reg false f11_r8
def f11_r9:List MO:=[Qa (Qv 64) (Qd (Qn 5)),Qa (Qv 65) (Qd (Qn 64)),Qb 65 true (Qv 66),Qa (Qv 66) (Qd (Qn 11)),Qb 65 true (Qv 67),Qa (Qv 67) (Qd (Qn 13)),Qb 65 true (Qv 68),Qa (Qv 68) (Qe Leaf.b Go.BinOp.eql (Qn 66) (Qn 67)),Qa (Qv 69) (Qm (Qn 65) (Qn 68) (Qo (Qp (Qq (Qs false))))),Qa (Qv 4) (Qd (Qn 69))]
def f11_c9:MC:=.reg false f11_r9
def f11_c10:MC:=MC.ret
def f11_c11:MC:=.seq f11_c9 f11_c10
def f11_c12:MC:=MC.skip
def f11_c13:MC:=.cond (Qn 63) f11_c11 f11_c12
def f11_c14:MC:=.seq f11_c8 f11_c13
def f11_r15:List MO:=[Qa (Qv 70) (Qd (Qn 5)),Qa (Qv 71) (Qd (Qn 70)),Qb 71 true (Qv 72),Qa (Qv 72) (Qd (Qn 9)),Qb 71 true (Qv 73),Qa (Qv 73) (Qe Qt Go.BinOp.eql (Qn 72) (Qo (Qp (Qq (Qr Qu 0))))),Qa (Qv 74) (Qm (Qn 71) (Qn 73) (Qo (Qp (Qq (Qs false))))),Qa (Qv 75) (Qd (Qn 74)),Qb 75 true (Qv 76),Qa (Qv 76) (Qd (Qn 8)),Qb 75 true (Qv 77),Qa (Qv 77) (Qd (Qn 10)),Qb 75 true (Qv 78),Qa (Qv 78) (Qj 1 (Qn 76) (Qn 77)),Qb 75 true (Qv 79),Qa (Qv 79) (Qf 1 false (Qn 78)),Qb 75 true (Qv 80),Qa (Qv 80) (Qd (Qn 12)),Qb 75 true (Qv 81),Qa (Qv 81) (Qe Qt Go.BinOp.eql (Qn 79) (Qn 80)),Qa (Qv 82) (Qm (Qn 75) (Qn 81) (Qo (Qp (Qq (Qs false))))),Qa (Qv 4) (Qd (Qn 82))]
def f11_c15:MC:=.reg false f11_r15
def f11_c16:MC:=MC.ret
def f11_c17:MC:=.seq f11_c15 f11_c16
def f11_c18:MC:=.seq f11_c14 f11_c17
def f11_c19:MC:=.seq f11_c7 f11_c18
def f11_c20:MC:=.seq f11_c6 f11_c19
def f11_c21:MC:=.seq f11_c5 f11_c20
def f11_c22:MC:=.seq f11_c4 f11_c21
def f11_c23:MC:=.seq f11_c3 f11_c22
def f11_c24:MC:=.seq f11_c2 f11_c23
def f11_c25:MC:=.seq f11_c1 f11_c24
def f11_c26:MC:=.seq f11_c0 f11_c25
attribute [go_sem] f11_r0 f11_r1 f11_r2 f11_r3 f11_r4 f11_r5 f11_r6 f11_r7 f11_r8 f11_r9 f11_r15
noncomputable def f11_code : Code := (f11.body).getD .skip
theorem f11_body : f11.body = Qv f11_code := by kernel_rfl
theorem f11_tr : trC QP [] f11_code = Qv f11_c26 := by kernel_rfl
theorem f11_rs : rsOf QP f11.results.toList = Qv [(RV.t 4)] := by kernel_rfl
theorem f11_nt : f11.ntmps = 83 := by kernel_rfl
theorem f11_ok : callable QP 11 = true := by kernel_rfl
theorem f11_in {gp : Heap} {args : List V} {res : V} (h : G ⟨QP,gp,0,[(RV.t 4)],fun r c => r = res /\ c = [],false⟩ [.code f11_c26,.fin] ⟨args ++ List.replicate (83 - args.length) .un,[]⟩) : Does QP gp 11 args res :=
 does_intro f11_ok func11 f11_body f11_tr f11_rs (by rw [f11_nt]; exact h)
def f28_r0:List MO:=[Qa (Qv 0) (Qd (Qo (Qp (Qq (Qs false)))))]
def f28_c0:MC:=.reg false f28_r0
def f28_r1:List MO:=[Qa (Qv 9) (MOp.build [(Qr Qu 0),(Qr Qu 0),(D.str (ByteArray.mk #[]))] [(0,(1,(Qo (Qp (Qq (Qr Qu 2)))))),(1,(1,(Qo (Qp (Qq (Qr Qu 5))))))]),Qa (Qv 10) (MOp.build [(Qr Qu 0),(Qr Qu 0),(Qr Qu 0),(D.str (ByteArray.mk #[])),(D.sl []),(D.sl [])] [(1,(3,(Qn 9)))]),Qa (Qv 1) (MOp.alloc [(Qr Qu 0),(Qr Qu 0),(Qr Qu 0),(D.str (ByteArray.mk #[])),(D.sl []),(D.sl [])]),Qa none (Ql 6 (Qn 1) (Qn 10))]
def f28_c1:MC:=.reg false f28_r1
def f28_r2:List MO:=[Qa (Qv 11) (Qf 6 true (Qn 1)),Qa (Qv 12) (MOp.bslice 1 [(Qr Qu 0)] 2 [(0,(Qo (Qp (Qq (Qr Qu 0))))),(1,(Qo (Qp (Qq (Qr Qu 2)))))]),Qa (Qv 13) (MOp.build [(Qr Qu 0),(Qr Qu 0),(Qr Qu 0),(D.str (ByteArray.mk #[])),(D.sl []),(D.sl [])] [(0,(1,(Qo (Qp (Qq (Qr Qu 1)))))),(5,(1,(Qn 12)))]),Qa (Qv 14) (Qf 6 true (Qn 1)),Qa (Qv 15) (MOp.build [(Qr Qu 0),(Qr Qu 0),(Qr Qu 0),(D.str (ByteArray.mk #[])),(D.sl []),(D.sl [])] []),Qa (Qv 16) (MOp.bslice 6 [(Qr Qu 0),(Qr Qu 0),(Qr Qu 0),(D.str (ByteArray.mk #[])),(D.sl []),(D.sl [])] 4 [(0,(Qn 11)),(1,(Qn 13)),(2,(Qn 14)),(3,(Qn 15))]),Qa (Qv 17) (MOp.build [(Qr Qu 0),(D.sl [])] [(0,(1,(Qo (Qp (Qq (Qr Qu 1)))))),(1,(1,(Qn 16)))]),Qa (Qv 2) (MOp.alloc [(Qr Qu 0),(D.sl [])]),Qa none (Ql 2 (Qn 2) (Qn 17))]
def f28_c2:MC:=.reg false f28_r2
def f28_r3:List MO:=[Qa (Qv 19) (Qf 2 true (Qn 2)),Qa (Qv 20) (Qh 29 [(Qn 19)]),Qa (Qv 18) (Qd (Qn 20)),Qa (Qv 21) (Qi (Qn 18) 0),Qa (Qv 22) (Qi (Qn 18) 1),Qa (Qv 3) (MOp.alloc [(Qr Qu 0),(D.sl [])]),Qa none (Ql 2 (Qn 3) (Qn 21)),Qa (Qv 4) (Qd (Qn 22))]
def f28_c3:MC:=.reg false f28_r3
def f28_r4:List MO:=[Qa (Qv 24) (Qf 2 true (Qn 2)),Qa (Qv 25) (Qh 31 [(Qn 24)]),Qa (Qv 23) (Qd (Qn 25)),Qa (Qv 26) (Qi (Qn 23) 0),Qa (Qv 27) (Qi (Qn 23) 1),Qa (Qv 5) (Qd (Qn 26)),Qa (Qv 6) (Qd (Qn 27))]
def f28_c4:MC:=.reg false f28_r4
def f28_r5:List MO:=[Qa (Qv 29) (MOp.build [(Qr Qu 0),(D.sl [])] []),Qa (Qv 30) (Qh 29 [(Qn 29)]),Qa (Qv 28) (Qd (Qn 30)),Qa (Qv 31) (Qi (Qn 28) 0),Qa (Qv 32) (Qi (Qn 28) 1),Qa (Qv 7) (MOp.alloc [(Qr Qu 0),(D.sl [])]),Qa none (Ql 2 (Qn 7) (Qn 31)),Qa (Qv 8) (Qd (Qn 32))]
def f28_c5:MC:=.reg false f28_r5
def f28_r6:List MO:=[Qa (Qv 33) (Qd (Qn 4)),Qa (Qv 34) (Qe Qt Go.BinOp.eql (Qn 33) (Qo (Qp (Qq (Qr Qu 0))))),Qa (Qv 35) (Qd (Qn 34)),Qb 35 true (Qv 36),Qa (Qv 36) (Qf 2 true (Qn 3)),Qb 35 true (Qv 37),Qa (Qv 37) (MOp.bslice 1 [(Qr Qu 0)] 2 [(0,(Qo (Qp (Qq (Qr Qu 1))))),(1,(Qo (Qp (Qq (Qr Qu 1)))))]),Qb 35 true (Qv 38),Qa (Qv 38) (MOp.build [(Qr Qu 0),(Qr Qu 0),(Qr Qu 0),(D.str (ByteArray.mk #[])),(D.sl []),(D.sl [])] [(0,(1,(Qo (Qp (Qq (Qr Qu 1)))))),(5,(1,(Qn 37)))]),Qb 35 true (Qv 39),Qa (Qv 39) (Qf 6 true (Qn 1)),Qb 35 true (Qv 40),Qa (Qv 40) (MOp.bslice 6 [(Qr Qu 0),(Qr Qu 0),(Qr Qu 0),(D.str (ByteArray.mk #[])),(D.sl []),(D.sl [])] 2 [(0,(Qn 38)),(1,(Qn 39))]),Qb 35 true (Qv 41),Qa (Qv 41) (MOp.build [(Qr Qu 0),(D.sl [])] [(1,(1,(Qn 40)))]),Qb 35 true (Qv 42),Qa (Qv 42) (Qh 38 [(Qn 36),(Qn 41)]),Qa (Qv 43) (Qm (Qn 35) (Qn 42) (Qo (Qp (Qq (Qs false))))),Qa (Qv 44) (Qd (Qn 43)),Qb 44 true (Qv 45),Qa (Qv 45) (Qd (Qn 6)),Qb 44 true (Qv 46),Qa (Qv 46) (Qe Qt Go.BinOp.eql (Qn 45) (Qo (Qp (Qq (Qr Qu 0))))),Qa (Qv 47) (Qm (Qn 44) (Qn 46) (Qo (Qp (Qq (Qs false))))),Qa (Qv 48) (Qd (Qn 47)),Qb 48 true (Qv 49),Qa (Qv 49) (Qd (Qn 5)),Qb 48 true (Qv 50),Qa (Qv 50) (MOp.bslice 1 [(Qr Qu 0)] 4 [(0,(Qo (Qp (Qq (Qr Qu 1))))),(1,(Qo (Qp (Qq (Qr Qu 0))))),(2,(Qo (Qp (Qq (Qr Qu 1))))),(3,(Qo (Qp (Qq (Qr Qu (-1))))))]),Qb 48 true (Qv 51),Qa (Qv 51) (Qh 24 [(Qn 49),(Qn 50)]),Qa (Qv 52) (Qm (Qn 48) (Qn 51) (Qo (Qp (Qq (Qs false))))),Qa (Qv 53) (Qd (Qn 52)),Qb 53 true (Qv 54),Qa (Qv 54) (Qd (Qn 8)),Qb 53 true (Qv 55),Qa (Qv 55) (Qe Qt Go.BinOp.eql (Qn 54) (Qo (Qp (Qq (Qr Qu 70))))),Qa (Qv 56) (Qm (Qn 53) (Qn 55) (Qo (Qp (Qq (Qs false))))),Qa (Qv 57) (Qd (Qn 56)),Qb 57 true (Qv 58),Qa (Qv 58) (Qf 2 true (Qn 3)),Qb 57 true (Qv 59),Qa (Qv 59) (Qh 34 [(Qn 58)]),Qa (Qv 60) (Qm (Qn 57) (Qn 59) (Qo (Qp (Qq (Qs false))))),Qa (Qv 61) (Qd (Qn 60)),Qb 61 true (Qv 62),Qa (Qv 62) (Qf 2 true (Qn 2)),Qb 61 true (Qv 63),Qa (Qv 63) (Qh 34 [(Qn 62)]),Qb 61 true (Qv 64),Qa (Qv 64) (MOp.not (Qn 63)),Qa (Qv 65) (Qm (Qn 61) (Qn 64) (Qo (Qp (Qq (Qs false))))),Qa (Qv 0) (Qd (Qn 65))]
def f28_c6:MC:=.reg false f28_r6
def f28_c7:MC:=MC.ret
def f28_c8:MC:=.seq f28_c6 f28_c7
def f28_c9:MC:=.seq f28_c5 f28_c8
def f28_c10:MC:=.seq f28_c4 f28_c9
def f28_c11:MC:=.seq f28_c3 f28_c10
def f28_c12:MC:=.seq f28_c2 f28_c11
def f28_c13:MC:=.seq f28_c1 f28_c12
def f28_c14:MC:=.seq f28_c0 f28_c13
attribute [go_sem] f28_r0 f28_r1 f28_r2 f28_r3 f28_r4 f28_r5 f28_r6
noncomputable def f28_code : Code := (f28.body).getD .skip
theorem f28_body : f28.body = Qv f28_code := by kernel_rfl
theorem f28_tr : trC QP [] f28_code = Qv f28_c14 := by kernel_rfl
theorem f28_rs : rsOf QP f28.results.toList = Qv [(RV.t 0)] := by kernel_rfl
theorem f28_nt : f28.ntmps = 66 := by kernel_rfl
theorem f28_ok : callable QP 28 = true := by kernel_rfl
theorem f28_in {gp : Heap} {args : List V} {res : V} (h : G ⟨QP,gp,0,[(RV.t 0)],fun r c => r = res /\ c = [],false⟩ [.code f28_c14,.fin] ⟨args ++ List.replicate (66 - args.length) .un,[]⟩) : Does QP gp 28 args res :=
 does_intro f28_ok func28 f28_body f28_tr f28_rs (by rw [f28_nt]; exact h)
def f29_r0:List MO:=[Qa (Qv 1) (MOp.ibox (Qn 0)),Qa (Qv 2) (MOp.alloc [(Qr Qu 0),(D.sl [])]),Qa (Qv 3) (Qd (Qo (Qp (Qq (Qr Qu 0)))))]
def f29_c0:MC:=.reg false f29_r0
def f29_r1:List MO:=[Qa (Qv 7) (Qf 2 true (Qn 1)),Qa (Qv 8) (Qh 58 [(Qn 7)]),Qa (Qv 6) (Qd (Qn 8)),Qa (Qv 9) (Qi (Qn 6) 0),Qa (Qv 10) (Qi (Qn 6) 1),Qa (Qv 4) (Qd (Qn 9)),Qa (Qv 5) (Qd (Qn 10))]
def f29_c1:MC:=.reg false f29_r1
def f29_r2:List MO:=[Qa (Qv 11) (Qd (Qn 5)),Qa (Qv 12) (MOp.nilq NK.ifc true (Qn 11))]
def f29_c2:MC:=.reg false f29_r2
def f29_r3:List MO:=[Qa (Qv 13) (MOp.build [(Qr Qu 0),(D.sl [])] []),Qa (Qv 14) (Qd (Qn 5)),Qa (Qv 15) (Qh 59 [(Qn 14)]),Qa none (Ql 2 (Qn 2) (Qn 13)),Qa (Qv 3) (Qd (Qn 15))]
def f29_c3:MC:=.reg false f29_r3
def f29_c4:MC:=MC.ret
def f29_c5:MC:=.seq f29_c3 f29_c4
def f29_c6:MC:=MC.skip
def f29_c7:MC:=.cond (Qn 12) f29_c5 f29_c6
def f29_c8:MC:=.seq f29_c2 f29_c7
def f29_r9:List MO:=[Qa (Qv 16) (Qd (Qn 4)),Qa (Qv 17) (Qh 60 [(Qn 16)]),Qa (Qv 18) (Qh 39 [(Qn 17)]),Qa (Qv 19) (Qi (Qn 18) 0),Qa (Qv 20) (Qi (Qn 18) 1),Qa none (Ql 2 (Qn 2) (Qn 19)),Qa (Qv 3) (Qd (Qn 20))]
def f29_c9:MC:=.reg false f29_r9
def f29_c10:MC:=MC.ret
def f29_c11:MC:=.seq f29_c9 f29_c10
def f29_c12:MC:=.seq f29_c8 f29_c11
def f29_c13:MC:=.seq f29_c1 f29_c12
def f29_c14:MC:=.seq f29_c0 f29_c13
attribute [go_sem] f29_r0 f29_r1 f29_r2 f29_r3 f29_r9
noncomputable def f29_code : Code := (f29.body).getD .skip
theorem f29_body : f29.body = Qv f29_code := by kernel_rfl
theorem f29_tr : trC QP [1] f29_code = Qv f29_c14 := by kernel_rfl
theorem f29_rs : rsOf QP f29.results.toList = Qv [(RV.cell 2 2 true),(RV.t 3)] := by kernel_rfl
theorem f29_nt : f29.ntmps = 21 := by kernel_rfl
theorem f29_ok : callable QP 29 = true := by kernel_rfl
theorem f29_in {gp : Heap} {args : List V} {res : V} (h : G ⟨QP,gp,0,[(RV.cell 2 2 true),(RV.t 3)],fun r c => r = res /\ c = [],false⟩ [.code f29_c14,.fin] ⟨args ++ List.replicate (21 - args.length) .un,[]⟩) : Does QP gp 29 args res :=
 does_intro f29_ok func29 f29_body f29_tr f29_rs (by rw [f29_nt]; exact h)
def f31_r0:List MO:=[Qa (Qv 1) (MOp.ibox (Qn 0)),Qa (Qv 2) (Qd (Qo (Qp A.nil))),Qa (Qv 3) (Qd (Qo (Qp (Qq (Qr Qu 0)))))]
def f31_c0:MC:=.reg false f31_r0
def f31_r1:List MO:=[Qa (Qv 18) (Qf 2 true (Qn 1)),Qa (Qv 19) (Qh 58 [(Qn 18)]),Qa (Qv 17) (Qd (Qn 19)),Qa (Qv 20) (Qi (Qn 17) 0),Qa (Qv 21) (Qi (Qn 17) 1),Qa (Qv 4) (Qd (Qn 20)),Qa (Qv 5) (Qd (Qn 21))]
def f31_c1:MC:=.reg false f31_r1
def f31_r2:List MO:=[Qa (Qv 22) (Qd (Qn 5)),Qa (Qv 23) (MOp.nilq NK.ifc true (Qn 22))]
def f31_c2:MC:=.reg false f31_r2
def f31_r3:List MO:=[Qa (Qv 24) (Qd (Qn 5)),Qa (Qv 25) (Qh 59 [(Qn 24)]),Qa (Qv 2) (Qd (Qo (Qp A.nil))),Qa (Qv 3) (Qd (Qn 25))]
def f31_c3:MC:=.reg false f31_r3
def f31_c4:MC:=MC.ret
def f31_c5:MC:=.seq f31_c3 f31_c4
def f31_c6:MC:=MC.skip
def f31_c7:MC:=.cond (Qn 23) f31_c5 f31_c6
def f31_c8:MC:=.seq f31_c2 f31_c7
def f31_r9:List MO:=[Qa (Qv 26) (Qd (Qn 4)),Qa (Qv 27) (MOp.mkMv (Go.Fn.func 60) (Qn 26)),Qa (Qv 6) (Qd (Qn 27))]
def f31_c9:MC:=.reg false f31_r9
def f31_r10:List MO:=[Qa (Qv 29) (Qd (Qn 6)),Qa (Qv 30) (MOp.callv (Qn 29) []),Qa (Qv 31) (Qh 36 [(Qn 30)]),Qa (Qv 28) (Qd (Qn 31)),Qa (Qv 32) (Qi (Qn 28) 0),Qa (Qv 33) (Qi (Qn 28) 1),Qa (Qv 7) (Qd (Qn 32)),Qa (Qv 8) (Qd (Qn 33))]
def f31_c10:MC:=.reg false f31_r10
def f31_r11:List MO:=[Qa (Qv 34) MOp.mkM,Qa (Qv 9) (Qd (Qn 34))]
def f31_c11:MC:=.reg false f31_r11
def f31_r12:List MO:=[Qa (Qv 35) (Qd (Qn 7)),Qa (Qv 36) (Qk Qt (Qn 35)),Qa (Qv 37) (Qd (Qo (Qp (Qq (Qr Qu 0)))))]
def f31_c12:MC:=.reg false f31_r12
def f31_r13:List MO:=[Qa (Qv 38) (Qe Qt Go.BinOp.lss (Qn 37) (Qn 36))]
def f31_c13:MC:=.reg false f31_r13
def f31_c14:MC:=MC.skip
def f31_c15:MC:=(MC.exit 0)
def f31_c16:MC:=.cond (Qn 38) f31_c14 f31_c15
def f31_r17:List MO:=[Qa (Qv 39) (Qd (Qn 37)),Qa (Qv 40) (Qj 1 (Qn 35) (Qn 37)),Qa (Qv 41) (Qf 1 false (Qn 40)),Qa (Qv 10) (Qd (Qn 39)),Qa (Qv 11) (Qd (Qn 41))]
def f31_c17:MC:=.reg false f31_r17
def f31_r18:List MO:=[Qa (Qv 42) (Qd (Qn 9)),Qa (Qv 43) (Qd (Qn 11)),Qa (Qv 44) (Qd (Qn 10)),Qa none (MOp.mupd false [Qt] (Qn 42) (Qn 43) (Qn 44))]
def f31_c18:MC:=.reg false f31_r18
def f31_c19:MC:=.seq f31_c17 f31_c18
def f31_c20:MC:=.blk 1 f31_c19
def f31_r21:List MO:=[Qa (Qv 45) (Qe Qt Go.BinOp.add (Qn 37) (Qo (Qp (Qq (Qr Qu 1))))),Qa (Qv 37) (Qd (Qn 45))]
def f31_c21:MC:=.reg false f31_r21
def f31_c22:MC:=.seq f31_c20 f31_c21
def f31_c23:MC:=.seq f31_c16 f31_c22
def f31_c24:MC:=.seq f31_c13 f31_c23
def f31_c25:MC:=.loop f31_c24
def f31_c26:MC:=.blk 0 f31_c25
def f31_c27:MC:=.seq f31_c12 f31_c26
def f31_r28:List MO:=[Qa (Qv 12) (Qd (Qo (Qp A.nil)))]
def f31_c28:MC:=.reg false f31_r28
def f31_r29:List MO:=[Qa (Qv 46) (Qd (Qn 4)),Qa (Qv 47) (MOp.nck (Qn 46)),Qa (Qv 48) (Qg 2 (Qn 47)),Qa (Qv 49) (Qf 1 false (Qn 48)),Qa (Qv 50) (Qk Qt (Qn 49)),Qa (Qv 51) (Qd (Qo (Qp (Qq (Qr Qu 0)))))]
def f31_c29:MC:=.reg false f31_r29
def f31_r30:List MO:=[Qa (Qv 52) (Qe Qt Go.BinOp.lss (Qn 51) (Qn 50))]
def f31_c30:MC:=.reg false f31_r30
def f31_c31:MC:=MC.skip
def f31_c32:MC:=(MC.exit 2)
def f31_c33:MC:=.cond (Qn 52) f31_c31 f31_c32
def f31_r34:List MO:=[Qa (Qv 53) (Qj 1 (Qn 49) (Qn 51)),Qa (Qv 54) (Qf 1 false (Qn 53)),Qa (Qv 14) (Qd (Qn 54))]
def f31_c34:MC:=.reg false f31_r34
def f31_r35:List MO:=[Qa (Qv 56) (Qd (Qn 9)),Qa (Qv 57) (Qd (Qn 14)),Qa (Qv 58) (MOp.lkp true (Qp (Qq (Qr Qu 0))) false [Qt] (Qn 56) (Qn 57)),Qa (Qv 55) (Qd (Qn 58)),Qa (Qv 59) (Qi (Qn 55) 0),Qa (Qv 60) (Qi (Qn 55) 1),Qa (Qv 15) (Qd (Qn 59)),Qa (Qv 16) (Qd (Qn 60))]
def f31_c35:MC:=.reg false f31_r35
def f31_r36:List MO:=[Qa (Qv 61) (Qd (Qn 16)),Qa (Qv 62) (MOp.not (Qn 61))]
def f31_c36:MC:=.reg false f31_r36
def f31_r37:List MO:=[Qa (Qv 15) (Qd (Qo (Qp (Qq (Qr Qu (-1))))))]
def f31_c37:MC:=.reg false f31_r37
def f31_c38:MC:=MC.skip
def f31_c39:MC:=.cond (Qn 62) f31_c37 f31_c38
def f31_c40:MC:=.seq f31_c36 f31_c39
def f31_r41:List MO:=[Qa (Qv 63) (Qd (Qn 12)),Qa (Qv 64) (Qd (Qn 15)),Qa (Qv 65) (MOp.bslice 1 [(Qr Qu 0)] 1 [(0,(Qn 64))]),Qa (Qv 66) (MOp.app 3 1 8 (Qn 63) (Qn 65)),Qa (Qv 12) (Qd (Qn 66))]
def f31_c41:MC:=.reg false f31_r41
def f31_c42:MC:=.seq f31_c40 f31_c41
def f31_c43:MC:=.seq f31_c35 f31_c42
def f31_c44:MC:=.seq f31_c34 f31_c43
def f31_c45:MC:=.blk 3 f31_c44
def f31_r46:List MO:=[Qa (Qv 67) (Qe Qt Go.BinOp.add (Qn 51) (Qo (Qp (Qq (Qr Qu 1))))),Qa (Qv 51) (Qd (Qn 67))]
def f31_c46:MC:=.reg false f31_r46
def f31_c47:MC:=.seq f31_c45 f31_c46
def f31_c48:MC:=.seq f31_c33 f31_c47
def f31_c49:MC:=.seq f31_c30 f31_c48
def f31_c50:MC:=.loop f31_c49
def f31_c51:MC:=.blk 2 f31_c50
def f31_c52:MC:=.seq f31_c29 f31_c51
def f31_r53:List MO:=[Qa (Qv 68) (Qd (Qn 12)),Qa (Qv 69) (Qd (Qn 8)),Qa (Qv 2) (Qd (Qn 68)),Qa (Qv 3) (Qd (Qn 69))]
def f31_c53:MC:=.reg false f31_r53
def f31_c54:MC:=MC.ret
def f31_c55:MC:=.seq f31_c53 f31_c54
def f31_c56:MC:=.seq f31_c52 f31_c55
def f31_c57:MC:=.seq f31_c28 f31_c56
def f31_c58:MC:=.seq f31_c27 f31_c57
def f31_c59:MC:=.seq f31_c11 f31_c58
def f31_c60:MC:=.seq f31_c10 f31_c59
def f31_c61:MC:=.seq f31_c9 f31_c60
def f31_c62:MC:=.seq f31_c8 f31_c61
def f31_c63:MC:=.seq f31_c1 f31_c62
def f31_c64:MC:=.seq f31_c0 f31_c63
noncomputable def f31_code : Code := (f31.body).getD .skip
theorem f31_body : f31.body = Qv f31_code := by kernel_rfl
theorem f31_tr : trC QP [1] f31_code = Qv f31_c64 := by kernel_rfl
theorem f31_rs : rsOf QP f31.results.toList = Qv [(RV.t 2),(RV.t 3)] := by kernel_rfl
theorem f31_nt : f31.ntmps = 70 := by kernel_rfl
theorem f31_ok : callable QP 31 = true := by kernel_rfl
theorem f31_in {gp : Heap} {args : List V} {res : V} (h : G ⟨QP,gp,0,[(RV.t 2),(RV.t 3)],fun r c => r = res /\ c = [],false⟩ [.code f31_c64,.fin] ⟨args ++ List.replicate (70 - args.length) .un,[]⟩) : Does QP gp 31 args res :=
 does_intro f31_ok func31 f31_body f31_tr f31_rs (by rw [f31_nt]; exact h)
def f34_r0:List MO:=[Qa (Qv 1) (MOp.ibox (Qn 0)),Qa (Qv 2) (Qd (Qo (Qp (Qq (Qs false)))))]
def f34_c0:MC:=.reg false f34_r0
def f34_r1:List MO:=[Qa (Qv 6) (Qf 2 true (Qn 1)),Qa (Qv 7) (Qh 29 [(Qn 6)]),Qa (Qv 5) (Qd (Qn 7)),Qa (Qv 8) (Qi (Qn 5) 0),Qa (Qv 9) (Qi (Qn 5) 1),Qa (Qv 3) (MOp.alloc [(Qr Qu 0),(D.sl [])]),Qa none (Ql 2 (Qn 3) (Qn 8)),Qa (Qv 4) (Qd (Qn 9))]
def f34_c1:MC:=.reg false f34_r1
def f34_r2:List MO:=[Qa (Qv 10) (Qd (Qn 4)),Qa (Qv 11) (Qe Qt Go.BinOp.eql (Qn 10) (Qo (Qp (Qq (Qr Qu 0))))),Qa (Qv 12) (Qd (Qn 11)),Qb 12 true (Qv 13),Qa (Qv 13) (Qf 2 true (Qn 1)),Qb 12 true (Qv 14),Qa (Qv 14) (Qf 2 true (Qn 3)),Qb 12 true (Qv 15),Qa (Qv 15) (Qh 38 [(Qn 13),(Qn 14)]),Qa (Qv 16) (Qm (Qn 12) (Qn 15) (Qo (Qp (Qq (Qs false))))),Qa (Qv 2) (Qd (Qn 16))]
def f34_c2:MC:=.reg false f34_r2
def f34_c3:MC:=MC.ret
def f34_c4:MC:=.seq f34_c2 f34_c3
def f34_c5:MC:=.seq f34_c1 f34_c4
def f34_c6:MC:=.seq f34_c0 f34_c5
attribute [go_sem] f34_r0 f34_r1 f34_r2
noncomputable def f34_code : Code := (f34.body).getD .skip
theorem f34_body : f34.body = Qv f34_code := by kernel_rfl
theorem f34_tr : trC QP [1] f34_code = Qv f34_c6 := by kernel_rfl
theorem f34_rs : rsOf QP f34.results.toList = Qv [(RV.t 2)] := by kernel_rfl
theorem f34_nt : f34.ntmps = 17 := by kernel_rfl
theorem f34_ok : callable QP 34 = true := by kernel_rfl
theorem f34_in {gp : Heap} {args : List V} {res : V} (h : G ⟨QP,gp,0,[(RV.t 2)],fun r c => r = res /\ c = [],false⟩ [.code f34_c6,.fin] ⟨args ++ List.replicate (17 - args.length) .un,[]⟩) : Does QP gp 34 args res :=
 does_intro f34_ok func34 f34_body f34_tr f34_rs (by rw [f34_nt]; exact h)
def f58_r0:List MO:=[Qa (Qv 1) (MOp.ibox (Qn 0)),Qa (Qv 2) (Qd (Qo (Qp (Qq D.nilP)))),Qa (Qv 3) (Qd (Qo (Qp (Qq D.nilI))))]
def f58_c0:MC:=.reg false f58_r0
def f58_r1:List MO:=[Qa (Qv 7) (Qf 2 true (Qn 1)),Qa (Qv 8) (Qh 18 [(Qn 7)]),Qa (Qv 6) (Qd (Qn 8)),Qa (Qv 9) (Qi (Qn 6) 0),Qa (Qv 10) (Qi (Qn 6) 1),Qa (Qv 4) (Qd (Qn 9)),Qa (Qv 5) (Qd (Qn 10))]
def f58_c1:MC:=.reg false f58_r1
def f58_r2:List MO:=[Qa (Qv 11) (Qd (Qn 5)),Qa (Qv 12) (Qe Qt Go.BinOp.neq (Qn 11) (Qo (Qp (Qq (Qr Qu 0)))))]
def f58_c2:MC:=.reg false f58_r2
def f58_r3:List MO:=[Qa (Qv 13) (Qd (Qn 5)),Qa (Qv 14) (MOp.build [(Qr Qu 0)] [(0,(1,(Qn 13)))]),Qa (Qv 15) (MOp.mkI 133 (Qn 14)),Qa (Qv 2) (Qd (Qo (Qp (Qq D.nilP)))),Qa (Qv 3) (Qd (Qn 15))]
def f58_c3:MC:=.reg false f58_r3
def f58_c4:MC:=MC.ret
def f58_c5:MC:=.seq f58_c3 f58_c4
def f58_c6:MC:=MC.skip
def f58_c7:MC:=.cond (Qn 12) f58_c5 f58_c6
def f58_c8:MC:=.seq f58_c2 f58_c7
def f58_r9:List MO:=[Qa (Qv 16) (Qf 2 true (Qn 1)),Qa (Qv 17) (Qd (Qn 4)),Qa (Qv 18) (MOp.build [(Qr Qu 0),(D.sl []),(D.sl [])] [(0,(2,(Qn 16))),(2,(1,(Qn 17)))]),Qa (Qv 19) (MOp.ibox (Qn 18)),Qa (Qv 2) (Qd (Qn 19)),Qa (Qv 3) (Qd (Qo (Qp (Qq D.nilI))))]
def f58_c9:MC:=.reg false f58_r9
def f58_c10:MC:=MC.ret
def f58_c11:MC:=.seq f58_c9 f58_c10
def f58_c12:MC:=.seq f58_c8 f58_c11
def f58_c13:MC:=.seq f58_c1 f58_c12
def f58_c14:MC:=.seq f58_c0 f58_c13
attribute [go_sem] f58_r0 f58_r1 f58_r2 f58_r3 f58_r9
noncomputable def f58_code : Code := (f58.body).getD .skip
theorem f58_body : f58.body = Qv f58_code := by kernel_rfl
theorem f58_tr : trC QP [1,19] f58_code = Qv f58_c14 := by kernel_rfl
theorem f58_rs : rsOf QP f58.results.toList = Qv [(RV.t 2),(RV.t 3)] := by kernel_rfl
theorem f58_nt : f58.ntmps = 20 := by kernel_rfl
theorem f58_ok : callable QP 58 = true := by kernel_rfl
theorem f58_in {gp : Heap} {args : List V} {res : V} (h : G ⟨QP,gp,0,[(RV.t 2),(RV.t 3)],fun r c => r = res /\ c = [],false⟩ [.code f58_c14,.fin] ⟨args ++ List.replicate (20 - args.length) .un,[]⟩) : Does QP gp 58 args res :=
 does_intro f58_ok func58 f58_body f58_tr f58_rs (by rw [f58_nt]; exact h)
def f59_r0:List MO:=[Qa (Qv 2) (Qd (Qo (Qp (Qq (Qr Qu 0)))))]
def f59_c0:MC:=.reg false f59_r0
def f59_r1:List MO:=[Qa (Qv 3) (MOp.alloc [(Qr Qu 0)])]
def f59_c1:MC:=.reg false f59_r1
def f59_r2:List MO:=[Qa (Qv 4) (Qd (Qn 0)),Qa (Qv 5) (MOp.mkI 135 (Qn 3)),Qa (Qv 6) (Qh 91 [(Qn 4),(Qn 5)])]
def f59_c2:MC:=.reg false f59_r2
def f59_r3:List MO:=[Qa (Qv 7) (Qg 0 (Qn 3)),Qa (Qv 8) (Qf 1 false (Qn 7)),Qa (Qv 2) (Qd (Qn 8))]
def f59_c3:MC:=.reg false f59_r3
def f59_c4:MC:=MC.ret
def f59_c5:MC:=.seq f59_c3 f59_c4
def f59_c6:MC:=MC.skip
def f59_c7:MC:=.cond (Qn 6) f59_c5 f59_c6
def f59_c8:MC:=.seq f59_c2 f59_c7
def f59_r9:List MO:=[Qa (Qv 2) (Qd (Qo (Qp (Qq (Qr Qu 0)))))]
def f59_c9:MC:=.reg false f59_r9
def f59_c10:MC:=MC.ret
def f59_c11:MC:=.seq f59_c9 f59_c10
def f59_c12:MC:=.seq f59_c8 f59_c11
def f59_c13:MC:=.seq f59_c1 f59_c12
def f59_c14:MC:=.seq f59_c0 f59_c13
attribute [go_sem] f59_r0 f59_r1 f59_r2 f59_r3 f59_r9
noncomputable def f59_code : Code := (f59.body).getD .skip
theorem f59_body : f59.body = Qv f59_code := by kernel_rfl
theorem f59_tr : trC QP [] f59_code = Qv f59_c14 := by kernel_rfl
theorem f59_rs : rsOf QP f59.results.toList = Qv [(RV.t 2)] := by kernel_rfl
theorem f59_nt : f59.ntmps = 9 := by kernel_rfl
theorem f59_ok : callable QP 59 = true := by kernel_rfl
theorem f59_in {gp : Heap} {args : List V} {res : V} (h : G ⟨QP,gp,0,[(RV.t 2)],fun r c => r = res /\ c = [],false⟩ [.code f59_c14,.fin] ⟨args ++ List.replicate (9 - args.length) .un,[]⟩) : Does QP gp 59 args res :=
 does_intro f59_ok func59 f59_body f59_tr f59_rs (by rw [f59_nt]; exact h)
def f60_r0:List MO:=[Qa (Qv 1) (MOp.ibox (Qn 0)),Qa (Qv 2) (MOp.alloc [(Qr Qu 0),(D.sl [])])]
def f60_c0:MC:=.reg false f60_r0
def f60_r1:List MO:=[Qa (Qv 10) (Qf 1 false (Qn 1)),Qa (Qv 11) (MOp.nck (Qn 10)),Qa (Qv 12) (Qg 2 (Qn 11)),Qa (Qv 13) (Qf 1 false (Qn 12)),Qa (Qv 14) (Qf 1 false (Qn 1)),Qa (Qv 15) (MOp.nck (Qn 14)),Qa (Qv 16) (Qg 0 (Qn 15)),Qa (Qv 17) (Qg 0 (Qn 16)),Qa (Qv 18) (Qf 1 false (Qn 17)),Qa (Qv 19) (Qj 1 (Qn 13) (Qn 18)),Qa (Qv 20) (Qf 1 false (Qn 19)),Qa (Qv 21) (MOp.build [(Qr Qu 0),(D.sl [])] [(0,(1,(Qn 20)))]),Qa (Qv 3) (MOp.alloc [(Qr Qu 0),(D.sl [])]),Qa none (Ql 2 (Qn 3) (Qn 21))]
def f60_c1:MC:=.reg true f60_r1
def f60_r2:List MO:=[Qa (Qv 22) (Qf 1 false (Qn 1)),Qa (Qv 23) (Qh 92 [(Qn 22)])]
def f60_c2:MC:=.reg false f60_r2
def f60_r3:List MO:=[Qa (Qv 5) (Qd (Qn 25))]
def f60_c3:MC:=.reg false f60_r3
def f60_r4:List MO:=[Qa (Qv 27) (Qf 1 false (Qn 1)),Qa (Qv 28) (MOp.nck (Qn 27)),Qa (Qv 29) (Qg 0 (Qn 28)),Qa (Qv 30) (Qf 2 true (Qn 29)),Qa (Qv 31) (Qd (Qn 5)),Qa (Qv 32) (Qh 74 [(Qn 30),(Qn 31)]),Qa (Qv 26) (Qd (Qn 32)),Qa (Qv 33) (Qi (Qn 26) 0),Qa (Qv 34) (Qi (Qn 26) 1),Qa (Qv 6) (Qd (Qn 33)),Qa (Qv 7) (Qd (Qn 34))]
def f60_c4:MC:=.reg false f60_r4
def f60_r5:List MO:=[Qa (Qv 36) (Qf 1 false (Qn 1)),Qa (Qv 37) (MOp.nck (Qn 36)),Qa (Qv 38) (Qg 0 (Qn 37)),Qa (Qv 39) (Qf 2 true (Qn 38)),Qa (Qv 40) (Qd (Qn 5)),Qa (Qv 41) (Qh 25 [(Qn 39),(Qn 40)]),Qa (Qv 35) (Qd (Qn 41)),Qa (Qv 42) (Qi (Qn 35) 0),Qa (Qv 43) (Qi (Qn 35) 1),Qa (Qv 8) (Qd (Qn 42)),Qa (Qv 9) (Qd (Qn 43))]
def f60_c5:MC:=.reg false f60_r5
def f60_r6:List MO:=[Qa (Qv 44) (Qg 1 (Qn 3)),Qa (Qv 45) (Qf 1 false (Qn 44)),Qa (Qv 46) (Qf 1 false (Qn 1)),Qa (Qv 47) (MOp.nck (Qn 46)),Qa (Qv 48) (Qg 0 (Qn 47)),Qa (Qv 49) (Qg 1 (Qn 48)),Qa (Qv 50) (Qf 1 false (Qn 49)),Qa (Qv 51) (Qd (Qn 5)),Qa (Qv 52) (Qj 6 (Qn 50) (Qn 51)),Qa (Qv 53) (Qg 0 (Qn 52)),Qa (Qv 54) (Qf 1 false (Qn 53)),Qa (Qv 55) (Qf 1 false (Qn 1)),Qa (Qv 56) (MOp.nck (Qn 55)),Qa (Qv 57) (Qg 0 (Qn 56)),Qa (Qv 58) (Qg 1 (Qn 57)),Qa (Qv 59) (Qf 1 false (Qn 58)),Qa (Qv 60) (Qd (Qn 5)),Qa (Qv 61) (Qj 6 (Qn 59) (Qn 60)),Qa (Qv 62) (Qg 1 (Qn 61)),Qa (Qv 63) (Qf 3 true (Qn 62)),Qa (Qv 64) (Qd (Qn 6)),Qa (Qv 65) (Qf 1 false (Qn 1)),Qa (Qv 66) (Qd (Qn 8)),Qa (Qv 67) (Qh 93 [(Qn 65),(Qn 66)]),Qa (Qv 68) (MOp.build [(Qr Qu 0),(Qr Qu 0),(Qr Qu 0),(D.str (ByteArray.mk #[])),(D.sl []),(D.sl [])] [(0,(1,(Qn 54))),(1,(3,(Qn 63))),(4,(1,(Qn 64))),(5,(1,(Qn 67)))]),Qa (Qv 69) (MOp.bslice 6 [(Qr Qu 0),(Qr Qu 0),(Qr Qu 0),(D.str (ByteArray.mk #[])),(D.sl []),(D.sl [])] 1 [(0,(Qn 68))]),Qa (Qv 70) (MOp.app 44 6 88 (Qn 45) (Qn 69)),Qa (Qv 71) (Qg 1 (Qn 3)),Qa none (Ql 1 (Qn 71) (Qn 70))]
def f60_c6:MC:=.reg true f60_r6
def f60_c7:MC:=.seq f60_c5 f60_c6
def f60_c8:MC:=.seq f60_c4 f60_c7
def f60_c9:MC:=.blk 1 f60_c8
def f60_c10:MC:=.rf (Qn 23) [24,25] f60_c3 f60_c9
def f60_c11:MC:=.blk 0 f60_c10
def f60_c12:MC:=.seq f60_c2 f60_c11
def f60_r13:List MO:=[Qa (Qv 72) (Qf 2 true (Qn 3)),Qa none (Ql 2 (Qn 2) (Qn 72))]
def f60_c13:MC:=.reg false f60_r13
def f60_c14:MC:=MC.ret
def f60_c15:MC:=.seq f60_c13 f60_c14
def f60_c16:MC:=.seq f60_c12 f60_c15
def f60_c17:MC:=.seq f60_c1 f60_c16
def f60_c18:MC:=.seq f60_c0 f60_c17
attribute [go_sem] f60_r0 f60_r1 f60_r2 f60_r3 f60_r4 f60_r5 f60_r6 f60_r13
noncomputable def f60_code : Code := (f60.body).getD .skip
theorem f60_body : f60.body = Qv f60_code := by kernel_rfl
theorem f60_tr : trC QP [1] f60_code = Qv f60_c18 := by kernel_rfl
theorem f60_rs : rsOf QP f60.results.toList = Qv [(RV.cell 2 2 true)] := by kernel_rfl
theorem f60_nt : f60.ntmps = 73 := by kernel_rfl
theorem f60_ok : callable QP 60 = true := by kernel_rfl
theorem f60_in {gp : Heap} {args : List V} {res : V} (h : G ⟨QP,gp,0,[(RV.cell 2 2 true)],fun r c => r = res /\ c = [],false⟩ [.code f60_c18,.fin] ⟨args ++ List.replicate (73 - args.length) .un,[]⟩) : Does QP gp 60 args res :=
 does_intro f60_ok func60 f60_body f60_tr f60_rs (by rw [f60_nt]; exact h)
def f92_r0:List MO:=[Qa (Qv 1) (MOp.ibox (Qn 0)),Qa (Qv 2) (Qd (Qo (Qp (Qq D.nilF))))]
def f92_c0:MC:=.reg false f92_r0
def f92_r1:List MO:=[Qa (Qv 3) (MOp.mkF (Go.Fn.func 117) [(Qn 1)]),Qa (Qv 2) (Qd (Qn 3))]
def f92_c1:MC:=.reg false f92_r1
def f92_c2:MC:=MC.ret
def f92_c3:MC:=.seq f92_c1 f92_c2
def f92_c4:MC:=.seq f92_c0 f92_c3
attribute [go_sem] f92_r0 f92_r1
noncomputable def f92_code : Code := (f92.body).getD .skip
theorem f92_body : f92.body = Qv f92_code := by kernel_rfl
theorem f92_tr : trC QP [1] f92_code = Qv f92_c4 := by kernel_rfl
theorem f92_rs : rsOf QP f92.results.toList = Qv [(RV.t 2)] := by kernel_rfl
theorem f92_nt : f92.ntmps = 4 := by kernel_rfl
theorem f92_ok : callable QP 92 = true := by kernel_rfl
theorem f92_in {gp : Heap} {args : List V} {res : V} (h : G ⟨QP,gp,0,[(RV.t 2)],fun r c => r = res /\ c = [],false⟩ [.code f92_c4,.fin] ⟨args ++ List.replicate (4 - args.length) .un,[]⟩) : Does QP gp 92 args res :=
 does_intro f92_ok func92 f92_body f92_tr f92_rs (by rw [f92_nt]; exact h)
def f93_r0:List MO:=[Qa (Qv 4) (Qd (Qo (Qp A.nil)))]
def f93_c0:MC:=.reg false f93_r0
def f93_r1:List MO:=[Qa (Qv 5) (Qd (Qo (Qp A.nil)))]
def f93_c1:MC:=.reg false f93_r1
def f93_r2:List MO:=[Qa (Qv 8) (Qd (Qn 1)),Qa (Qv 9) (Qk Qt (Qn 8)),Qa (Qv 10) (Qd (Qo (Qp (Qq (Qr Qu 0)))))]
def f93_c2:MC:=.reg false f93_r2
def f93_r3:List MO:=[Qa (Qv 11) (Qe Qt Go.BinOp.lss (Qn 10) (Qn 9))]
def f93_c3:MC:=.reg false f93_r3
def f93_c4:MC:=MC.skip
def f93_c5:MC:=(MC.exit 0)
def f93_c6:MC:=.cond (Qn 11) f93_c4 f93_c5
def f93_r7:List MO:=[Qa (Qv 12) (Qj 1 (Qn 8) (Qn 10)),Qa (Qv 13) (Qf 1 false (Qn 12)),Qa (Qv 7) (Qd (Qn 13))]
def f93_c7:MC:=.reg false f93_r7
def f93_r8:List MO:=[Qa (Qv 14) (Qd (Qn 5)),Qa (Qv 15) (Qd (Qn 0)),Qa (Qv 16) (MOp.nck (Qn 15)),Qa (Qv 17) (Qg 2 (Qn 16)),Qa (Qv 18) (Qf 1 false (Qn 17)),Qa (Qv 19) (Qd (Qn 7)),Qa (Qv 20) (Qj 1 (Qn 18) (Qn 19)),Qa (Qv 21) (Qf 1 false (Qn 20)),Qa (Qv 22) (MOp.bslice 1 [(Qr Qu 0)] 1 [(0,(Qn 21))]),Qa (Qv 23) (MOp.app 3 1 8 (Qn 14) (Qn 22)),Qa (Qv 5) (Qd (Qn 23))]
def f93_c8:MC:=.reg false f93_r8
def f93_c9:MC:=.seq f93_c7 f93_c8
def f93_c10:MC:=.blk 1 f93_c9
def f93_r11:List MO:=[Qa (Qv 24) (Qe Qt Go.BinOp.add (Qn 10) (Qo (Qp (Qq (Qr Qu 1))))),Qa (Qv 10) (Qd (Qn 24))]
def f93_c11:MC:=.reg false f93_r11
def f93_c12:MC:=.seq f93_c10 f93_c11
def f93_c13:MC:=.seq f93_c6 f93_c12
def f93_c14:MC:=.seq f93_c3 f93_c13
def f93_c15:MC:=.loop f93_c14
def f93_c16:MC:=.blk 0 f93_c15
def f93_c17:MC:=.seq f93_c2 f93_c16
def f93_r18:List MO:=[Qa (Qv 25) (Qd (Qn 5)),Qa (Qv 4) (Qd (Qn 25))]
def f93_c18:MC:=.reg false f93_r18
def f93_c19:MC:=MC.ret
def f93_c20:MC:=.seq f93_c18 f93_c19
def f93_c21:MC:=.seq f93_c17 f93_c20
def f93_c22:MC:=.seq f93_c1 f93_c21
def f93_c23:MC:=.seq f93_c0 f93_c22
noncomputable def f93_code : Code := (f93.body).getD .skip
theorem f93_body : f93.body = Qv f93_code := by kernel_rfl
theorem f93_tr : trC QP [] f93_code = Qv f93_c23 := by kernel_rfl
theorem f93_rs : rsOf QP f93.results.toList = Qv [(RV.t 4)] := by kernel_rfl
theorem f93_nt : f93.ntmps = 26 := by kernel_rfl
theorem f93_ok : callable QP 93 = true := by kernel_rfl
theorem f93_in {gp : Heap} {args : List V} {res : V} (h : G ⟨QP,gp,0,[(RV.t 4)],fun r c => r = res /\ c = [],false⟩ [.code f93_c23,.fin] ⟨args ++ List.replicate (26 - args.length) .un,[]⟩) : Does QP gp 93 args res :=
 does_intro f93_ok func93 f93_body f93_tr f93_rs (by rw [f93_nt]; exact h)
def f117_r0:List MO:=[Qa (Qv 6) MOp.mkM,Qa (Qv 3) (Qd (Qn 6))]
def f117_c0:MC:=.reg false f117_r0
def f117_c1:MC:=MC.skip
def f117_r2:List MO:=[Qa (Qv 7) (Qf 1 false (Qn 1)),Qa (Qv 8) (MOp.nck (Qn 7)),Qa (Qv 9) (Qg 2 (Qn 8)),Qa (Qv 10) (Qf 1 false (Qn 9)),Qa (Qv 11) (Qk Qt (Qn 10)),Qa (Qv 12) (Qd (Qo (Qp (Qq (Qr Qu 0)))))]
def f117_c2:MC:=.reg false f117_r2
def f117_r3:List MO:=[Qa (Qv 13) (Qe Qt Go.BinOp.lss (Qn 12) (Qn 11))]
def f117_c3:MC:=.reg false f117_r3
def f117_c4:MC:=MC.skip
def f117_c5:MC:=(MC.exit 0)
def f117_c6:MC:=.cond (Qn 13) f117_c4 f117_c5
def f117_r7:List MO:=[Qa (Qv 14) (Qd (Qn 12)),Qa (Qv 15) (Qj 1 (Qn 10) (Qn 12)),Qa (Qv 16) (Qf 1 false (Qn 15)),Qa (Qv 4) (Qd (Qn 14)),Qa (Qv 5) (Qd (Qn 16))]
def f117_c7:MC:=.reg false f117_r7
def f117_r8:List MO:=[Qa (Qv 17) (Qd (Qn 3)),Qa (Qv 18) (Qd (Qn 5)),Qa (Qv 19) (MOp.lkp false (Qp (Qq (Qs false))) false [Qt] (Qn 17) (Qn 18))]
def f117_c8:MC:=.reg false f117_r8
def f117_c9:MC:=(MC.exit 1)
def f117_c10:MC:=MC.skip
def f117_c11:MC:=.cond (Qn 19) f117_c9 f117_c10
def f117_c12:MC:=.seq f117_c8 f117_c11
def f117_r13:List MO:=[Qa (Qv 20) (Qd (Qn 3)),Qa (Qv 21) (Qd (Qn 5)),Qa none (MOp.mupd false [Qt] (Qn 20) (Qn 21) (Qo (Qp (Qq (Qs true)))))]
def f117_c13:MC:=.reg false f117_r13
def f117_r14:List MO:=[Qa (Qv 22) (Qd (Qn 0)),Qa (Qv 23) (Qd (Qn 5)),Qa (Qv 24) (Qd (Qn 4)),Qa (Qv 25) (MOp.callv (Qn 22) [(Qn 23),(Qn 24)]),Qa (Qv 26) (MOp.not (Qn 25))]
def f117_c14:MC:=.reg false f117_r14
def f117_c15:MC:=(MC.exit 0)
def f117_c16:MC:=MC.skip
def f117_c17:MC:=.cond (Qn 26) f117_c15 f117_c16
def f117_c18:MC:=.seq f117_c14 f117_c17
def f117_c19:MC:=.seq f117_c13 f117_c18
def f117_c20:MC:=.seq f117_c12 f117_c19
def f117_c21:MC:=.seq f117_c7 f117_c20
def f117_c22:MC:=.blk 1 f117_c21
def f117_r23:List MO:=[Qa (Qv 27) (Qe Qt Go.BinOp.add (Qn 12) (Qo (Qp (Qq (Qr Qu 1))))),Qa (Qv 12) (Qd (Qn 27))]
def f117_c23:MC:=.reg false f117_r23
def f117_c24:MC:=.seq f117_c22 f117_c23
def f117_c25:MC:=.seq f117_c6 f117_c24
def f117_c26:MC:=.seq f117_c3 f117_c25
def f117_c27:MC:=.loop f117_c26
def f117_c28:MC:=.blk 0 f117_c27
def f117_c29:MC:=.seq f117_c2 f117_c28
def f117_c30:MC:=.seq f117_c1 f117_c29
def f117_c31:MC:=.seq f117_c0 f117_c30
def f117_c32:MC:=.scope f117_c31
attribute [go_sem] f117_r0 f117_r2 f117_r3 f117_r7 f117_r8 f117_r13 f117_r14 f117_r23
noncomputable def f117_code : Code := (f117.body).getD .skip
theorem f117_body : f117.body = Qv f117_code := by kernel_rfl
theorem f117_tr : trC QP [] f117_code = Qv f117_c32 := by kernel_rfl
theorem f117_rs : rsOf QP f117.results.toList = Qv [] := by kernel_rfl
theorem f117_nt : f117.ntmps = 28 := by kernel_rfl
theorem f117_ok : callable QP 117 = true := by kernel_rfl
theorem f117_tri {gp : Heap} {args : List V} {pre : List Ch} {R : V -> List Ch -> Prop} (h : G ⟨QP,gp,pre.length,[],R,false⟩ [.code f117_c32,.fin] ⟨args ++ List.replicate (28 - args.length) .un,pre⟩) : Tri QP gp 117 args pre R :=
 tri_intro func117 f117_body f117_tr f117_rs (by rw [f117_nt]; exact h)
end Go.Fw.L07
