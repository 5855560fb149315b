/- Small codes. -/
import Derived.Test.YtldjkoidjigjpaaGreatDoorFd
import Derived.Test.YtldjkoidjigjpaaGreatDoorProg
set_option linter.all false
namespace Go.Fw.L07
open Go Go.Fw
open Go.Proofs.Tryz renaming prog -> QP
open Go.Proofs.Tryz (f109 f110 f112 f113 f114 f138 f156 f38 f39 f40 f41 f42 f43 f44 f5 f60 f80 f81 f82 f83 func109 func110 func112 func113 func114 func138 func156 func38 func39 func40 func41 func42 func43 func44 func5 func60 func80 func81 func82 func83)
open Go.Fw.MO renaming op -> Qa,chk -> Qb,opx -> Qc
open Go.Fw.MOp renaming mv -> Qd,bin -> Qe,load -> Qf,fad -> Qg,call -> Qh,ext -> Qi,iad -> Qj,len -> Qk,store -> Ql,pick -> Qm
open Go.Fw.Opd renaming t -> Qn,c -> Qo
open Go.Fw.V renaming one -> Qp
open Go.Fw.A renaming d -> Qq
open Go.Fw.D renaming int -> Qr,bool -> Qs
open Go.Fw.Leaf renaming i -> Qt
open Go.IntKind renaming i64 -> Qu
open Option renaming some -> Qv
def f5_r0 : List MO := [Qa (Qv 2) (MOp.box (Qn 0)),Qa (Qv 3) (MOp.box (Qn 1)),Qa (Qv 4) (Qd (Qo (Qp (Qq (Qs false)))))]
def f5_c0 : MC := .reg false f5_r0
def f5_r1 : List MO := [Qa (Qv 16) (Qh 38 []),Qa (Qv 5) (Qd (Qn 16))]
def f5_c1 : MC := .reg false f5_r1
def f5_r2 : List MO := [Qa (Qv 17) (Qf 2 true (Qn 2)),Qa (Qv 18) (Qh 39 [(Qn 17),(Qo (Qp (Qq (Qr Qu 30))))]),Qa none (Ql 2 (Qn 2) (Qn 18))]
def f5_c2 : MC := .reg false f5_r2
def f5_r3 : List MO := [Qa (Qv 19) (Qf 2 true (Qn 3)),Qa (Qv 20) (Qh 39 [(Qn 19),(Qo (Qp (Qq (Qr Qu 30))))]),Qa none (Ql 2 (Qn 3) (Qn 20))]
def f5_c3 : MC := .reg false f5_r3
def f5_r4 : List MO := [Qa (Qv 22) (Qf 2 true (Qn 2)),Qa (Qv 23) (Qf 2 true (Qn 3)),Qa (Qv 24) (Qh 40 [(Qn 22),(Qn 23)]),Qa (Qv 21) (Qd (Qn 24)),Qa (Qv 25) (Qi (Qn 21) 0),Qa (Qv 26) (Qi (Qn 21) 1),Qa (Qv 27) (Qi (Qn 21) 2),Qa (Qv 6) (Qd (Qn 25)),Qa (Qv 7) (Qd (Qn 26)),Qa (Qv 8) (Qd (Qn 27))]
def f5_c4 : MC := .reg false f5_r4
def f5_r5 : List MO := [Qa (Qv 29) (Qf 2 true (Qn 2)),Qa (Qv 30) (Qf 2 true (Qn 3)),Qa (Qv 31) (Qh 41 [(Qn 29),(Qn 30)]),Qa (Qv 28) (Qd (Qn 31)),Qa (Qv 32) (Qi (Qn 28) 0),Qa (Qv 33) (Qi (Qn 28) 1),Qa (Qv 34) (Qi (Qn 28) 2),Qa (Qv 9) (Qd (Qn 32)),Qa (Qv 10) (Qd (Qn 33)),Qa (Qv 11) (Qd (Qn 34))]
def f5_c5 : MC := .reg false f5_r5
def f5_r6 : List MO := [Qa (Qv 36) (Qf 2 true (Qn 2)),Qa (Qv 37) (Qf 2 true (Qn 3)),Qa (Qv 38) (Qh 42 [(Qn 36),(Qn 37)]),Qa (Qv 35) (Qd (Qn 38)),Qa (Qv 39) (Qi (Qn 35) 0),Qa (Qv 40) (Qi (Qn 35) 1),Qa (Qv 12) (Qd (Qn 39)),Qa (Qv 13) (Qd (Qn 40))]
def f5_c6 : MC := .reg false f5_r6
def f5_r7 : List MO := [Qa (Qv 42) (Qf 2 true (Qn 2)),Qa (Qv 43) (Qf 2 true (Qn 3)),Qa (Qv 44) (Qh 43 [(Qn 42),(Qn 43)]),Qa (Qv 41) (Qd (Qn 44)),Qa (Qv 45) (Qi (Qn 41) 0),Qa (Qv 46) (Qi (Qn 41) 1),Qa (Qv 14) (Qd (Qn 45)),Qa (Qv 15) (Qd (Qn 46))]
def f5_c7 : MC := .reg false f5_r7
def f5_r8 : List MO := [Qa (Qv 47) (Qd (Qn 5)),Qa (Qv 48) (Qd (Qn 47)),Qb 48 true (Qv 49),Qa (Qv 49) (Qd (Qn 6)),Qb 48 true (Qv 50),Qa (Qv 50) (Qd (Qn 9)),Qb 48 true (Qv 51),Qa (Qv 51) (Qh 44 [(Qn 49),(Qn 50)]),Qa (Qv 52) (Qm (Qn 48) (Qn 51) (Qo (Qp (Qq (Qs false))))),Qa (Qv 53) (Qd (Qn 52)),Qb 53 true (Qv 54),Qa (Qv 54) (Qd (Qn 7)),Qb 53 true (Qv 55),Qa (Qv 55) (Qd (Qn 10)),Qb 53 true (Qv 56),Qa (Qv 56) (Qe Leaf.b Go.BinOp.eql (Qn 54) (Qn 55)),Qa (Qv 57) (Qm (Qn 53) (Qn 56) (Qo (Qp (Qq (Qs false))))),Qa (Qv 58) (Qd (Qn 57)),Qb 58 true (Qv 59),Qa (Qv 59) (Qd (Qn 8)),Qb 58 true (Qv 60),Qa (Qv 60) (Qd (Qn 11)),Qb 58 true (Qv 61),Qa (Qv 61) (Qe Qt Go.BinOp.eql (Qn 59) (Qn 60)),Qa (Qv 62) (Qm (Qn 58) (Qn 61) (Qo (Qp (Qq (Qs false))))),Qa (Qv 63) (Qd (Qn 62)),Qb 63 true (Qv 64),Qa (Qv 64) (Qd (Qn 12)),Qb 63 true (Qv 65),Qa (Qv 65) (Qd (Qn 14)),Qb 63 true (Qv 66),Qa (Qv 66) (Qe Leaf.b Go.BinOp.eql (Qn 64) (Qn 65)),Qa (Qv 67) (Qm (Qn 63) (Qn 66) (Qo (Qp (Qq (Qs false))))),Qa (Qv 68) (Qd (Qn 67)),Qb 68 true (Qv 69),Qa (Qv 69) (Qd (Qn 13)),Qb 68 true (Qv 70),Qa (Qv 70) (Qd (Qn 15)),Qb 68 true (Qv 71),Qa (Qv 71) (Qe Qt Go.BinOp.eql (Qn 69) (Qn 70)),Qa (Qv 72) (Qm (Qn 68) (Qn 71) (Qo (Qp (Qq (Qs false))))),Qa (Qv 4) (Qd (Qn 72))]
def f5_c8 : MC := .reg false f5_r8
def f5_c9 : MC := MC.ret
def f5_c10 : MC := .seq f5_c8 f5_c9
def f5_c11 : MC := .seq f5_c7 f5_c10
def f5_c12 : MC := .seq f5_c6 f5_c11
def f5_c13 : MC := .seq f5_c5 f5_c12
def f5_c14 : MC := .seq f5_c4 f5_c13
def f5_c15 : MC := .seq f5_c3 f5_c14
def f5_c16 : MC := .seq f5_c2 f5_c15
def f5_c17 : MC := .seq f5_c1 f5_c16
def f5_c18 : MC := .seq f5_c0 f5_c17
noncomputable def f5_code : Code := (f5.body).getD .skip
theorem f5_body : f5.body = Qv f5_code := by kernel_rfl
theorem f5_tr : trC QP [] f5_code = Qv f5_c18 := by kernel_rfl
theorem f5_rs : rsOf QP f5.results.toList = Qv [(RV.t 4)] := by kernel_rfl
theorem f5_nt : f5.ntmps = 73 := by kernel_rfl
theorem f5_ok : callable QP 5 = true := by kernel_rfl
theorem f5_in {gp : Heap} {args : List V} {res : V} (h : G ⟨QP,gp,0,[(RV.t 4)],fun r c => r = res /\ c = [],false⟩ [.code f5_c18,.fin] ⟨args ++ List.replicate (73 - args.length) .un,[]⟩) : Does QP gp 5 args res :=
 does_intro f5_ok func5 f5_body f5_tr f5_rs (by rw [f5_nt]; exact h)
def f38_r0 : List MO := [Qa (Qv 0) (Qd (Qo (Qp (Qq (Qs false)))))]
def f38_c0 : MC := .reg false f38_r0
def f38_r1 : List MO := [Qa (Qv 13) (MOp.bslice 1 [(Qr Qu 0)] 1 [(0,(Qo (Qp (Qq (Qr Qu 0)))))]),Qa (Qv 14) (MOp.build [(Qr Qu 0),(Qr Qu 0),(Qr Qu 0),(D.str (ByteArray.mk #[])),(D.sl []),(D.sl [])] [(0,(1,(Qo (Qp (Qq (Qr Qu 1)))))),(5,(1,(Qn 13)))]),Qa (Qv 15) (MOp.bslice 6 [(Qr Qu 0),(Qr Qu 0),(Qr Qu 0),(D.str (ByteArray.mk #[])),(D.sl []),(D.sl [])] 1 [(0,(Qn 14))]),Qa (Qv 16) (MOp.build [(Qr Qu 0),(D.sl [])] [(1,(1,(Qn 15)))]),Qa (Qv 1) (MOp.alloc [(Qr Qu 0),(D.sl [])]),Qa none (Ql 2 (Qn 1) (Qn 16))]
def f38_c1 : MC := .reg false f38_r1
def f38_r2 : List MO := [Qa (Qv 17) (MOp.bslice 1 [(Qr Qu 0)] 1 [(0,(Qo (Qp (Qq (Qr Qu 1)))))]),Qa (Qv 18) (MOp.build [(Qr Qu 0),(Qr Qu 0),(Qr Qu 0),(D.str (ByteArray.mk #[])),(D.sl []),(D.sl [])] [(0,(1,(Qo (Qp (Qq (Qr Qu 1)))))),(5,(1,(Qn 17)))]),Qa (Qv 19) (MOp.bslice 1 [(Qr Qu 0)] 1 [(0,(Qo (Qp (Qq (Qr Qu 0)))))]),Qa (Qv 20) (MOp.build [(Qr Qu 0),(Qr Qu 0),(Qr Qu 0),(D.str (ByteArray.mk #[])),(D.sl []),(D.sl [])] [(0,(1,(Qo (Qp (Qq (Qr Qu 1)))))),(5,(1,(Qn 19)))]),Qa (Qv 21) (MOp.bslice 6 [(Qr Qu 0),(Qr Qu 0),(Qr Qu 0),(D.str (ByteArray.mk #[])),(D.sl []),(D.sl [])] 2 [(0,(Qn 18)),(1,(Qn 20))]),Qa (Qv 22) (MOp.build [(Qr Qu 0),(D.sl [])] [(1,(1,(Qn 21)))]),Qa (Qv 2) (MOp.alloc [(Qr Qu 0),(D.sl [])]),Qa none (Ql 2 (Qn 2) (Qn 22))]
def f38_c2 : MC := .reg false f38_r2
def f38_r3 : List MO := [Qa (Qv 24) (Qf 2 true (Qn 1)),Qa (Qv 25) (Qf 2 true (Qn 2)),Qa (Qv 26) (Qh 40 [(Qn 24),(Qn 25)]),Qa (Qv 23) (Qd (Qn 26)),Qa (Qv 27) (Qi (Qn 23) 0),Qa (Qv 28) (Qi (Qn 23) 1),Qa (Qv 29) (Qi (Qn 23) 2),Qa (Qv 3) (Qd (Qn 27)),Qa (Qv 4) (Qd (Qn 28)),Qa (Qv 5) (Qd (Qn 29))]
def f38_c3 : MC := .reg false f38_r3
def f38_r4 : List MO := [Qa (Qv 31) (Qf 2 true (Qn 1)),Qa (Qv 32) (Qf 2 true (Qn 2)),Qa (Qv 33) (Qh 42 [(Qn 31),(Qn 32)]),Qa (Qv 30) (Qd (Qn 33)),Qa (Qv 34) (Qi (Qn 30) 0),Qa (Qv 35) (Qi (Qn 30) 1),Qa (Qv 6) (Qd (Qn 34)),Qa (Qv 7) (Qd (Qn 35))]
def f38_c4 : MC := .reg false f38_r4
def f38_r5 : List MO := [Qa (Qv 37) (Qf 2 true (Qn 2)),Qa (Qv 38) (Qg 1 (Qn 2)),Qa (Qv 39) (Qf 1 false (Qn 38)),Qa (Qv 40) (MOp.build [(Qr Qu 0),(D.sl [])] [(0,(1,(Qo (Qp (Qq (Qr Qu 1)))))),(1,(1,(Qn 39)))]),Qa (Qv 41) (Qh 42 [(Qn 37),(Qn 40)]),Qa (Qv 36) (Qd (Qn 41)),Qa (Qv 42) (Qi (Qn 36) 0),Qa (Qv 43) (Qi (Qn 36) 1),Qa (Qv 8) (Qd (Qn 42)),Qa (Qv 9) (Qd (Qn 43))]
def f38_c5 : MC := .reg false f38_r5
def f38_r6 : List MO := [Qa (Qv 45) (Qf 2 true (Qn 1)),Qa (Qv 46) (MOp.build [(Qr Qu 0),(D.sl [])] []),Qa (Qv 47) (Qh 40 [(Qn 45),(Qn 46)]),Qa (Qv 44) (Qd (Qn 47)),Qa (Qv 48) (Qi (Qn 44) 0),Qa (Qv 49) (Qi (Qn 44) 1),Qa (Qv 50) (Qi (Qn 44) 2),Qa (Qv 10) (Qd (Qn 48)),Qa (Qv 11) (Qd (Qn 49)),Qa (Qv 12) (Qd (Qn 50))]
def f38_c6 : MC := .reg false f38_r6
def f38_r7 : List MO := [Qa (Qv 51) (Qd (Qn 3)),Qa (Qv 52) (MOp.build [(Qr Qu 0),(Qr Qu 0)] []),Qa (Qv 53) (MOp.build [(Qr Qu 0),(Qr Qu 0)] [(1,(1,(Qo (Qp (Qq (Qr Qu 1))))))]),Qa (Qv 54) (MOp.bslice 2 [(Qr Qu 0),(Qr Qu 0)] 2 [(0,(Qn 52)),(1,(Qn 53))]),Qa (Qv 55) (Qh 44 [(Qn 51),(Qn 54)]),Qa (Qv 56) (Qd (Qn 55)),Qb 56 true (Qv 57),Qa (Qv 57) (Qd (Qn 4)),Qa (Qv 58) (Qm (Qn 56) (Qn 57) (Qo (Qp (Qq (Qs false))))),Qa (Qv 59) (Qd (Qn 58)),Qb 59 true (Qv 60),Qa (Qv 60) (Qd (Qn 5)),Qb 59 true (Qv 61),Qa (Qv 61) (Qe Qt Go.BinOp.eql (Qn 60) (Qo (Qp (Qq (Qr Qu 0))))),Qa (Qv 62) (Qm (Qn 59) (Qn 61) (Qo (Qp (Qq (Qs false))))),Qa (Qv 63) (Qd (Qn 62)),Qb 63 true (Qv 64),Qa (Qv 64) (Qd (Qn 6)),Qb 63 true (Qv 65),Qa (Qv 65) (MOp.not (Qn 64)),Qa (Qv 66) (Qm (Qn 63) (Qn 65) (Qo (Qp (Qq (Qs false))))),Qa (Qv 67) (Qd (Qn 66)),Qb 67 true (Qv 68),Qa (Qv 68) (Qd (Qn 7)),Qb 67 true (Qv 69),Qa (Qv 69) (Qe Qt Go.BinOp.eql (Qn 68) (Qo (Qp (Qq (Qr Qu 0))))),Qa (Qv 70) (Qm (Qn 67) (Qn 69) (Qo (Qp (Qq (Qs false))))),Qa (Qv 71) (Qd (Qn 70)),Qb 71 true (Qv 72),Qa (Qv 72) (Qd (Qn 8)),Qa (Qv 73) (Qm (Qn 71) (Qn 72) (Qo (Qp (Qq (Qs false))))),Qa (Qv 74) (Qd (Qn 73)),Qb 74 true (Qv 75),Qa (Qv 75) (Qd (Qn 9)),Qb 74 true (Qv 76),Qa (Qv 76) (Qe Qt Go.BinOp.eql (Qn 75) (Qo (Qp (Qq (Qr Qu 0))))),Qa (Qv 77) (Qm (Qn 74) (Qn 76) (Qo (Qp (Qq (Qs false))))),Qa (Qv 78) (Qd (Qn 77)),Qb 78 true (Qv 79),Qa (Qv 79) (Qd (Qn 12)),Qb 78 true (Qv 80),Qa (Qv 80) (Qe Qt Go.BinOp.eql (Qn 79) (Qo (Qp (Qq (Qr Qu 70))))),Qa (Qv 81) (Qm (Qn 78) (Qn 80) (Qo (Qp (Qq (Qs false))))),Qa (Qv 0) (Qd (Qn 81))]
def f38_c7 : MC := .reg false f38_r7
def f38_c8 : MC := MC.ret
def f38_c9 : MC := .seq f38_c7 f38_c8
def f38_c10 : MC := .seq f38_c6 f38_c9
def f38_c11 : MC := .seq f38_c5 f38_c10
def f38_c12 : MC := .seq f38_c4 f38_c11
def f38_c13 : MC := .seq f38_c3 f38_c12
def f38_c14 : MC := .seq f38_c2 f38_c13
def f38_c15 : MC := .seq f38_c1 f38_c14
def f38_c16 : MC := .seq f38_c0 f38_c15
noncomputable def f38_code : Code := (f38.body).getD .skip
theorem f38_body : f38.body = Qv f38_code := by kernel_rfl
theorem f38_tr : trC QP [] f38_code = Qv f38_c16 := by kernel_rfl
theorem f38_rs : rsOf QP f38.results.toList = Qv [(RV.t 0)] := by kernel_rfl
theorem f38_nt : f38.ntmps = 82 := by kernel_rfl
theorem f38_ok : callable QP 38 = true := by kernel_rfl
theorem f38_in {gp : Heap} {args : List V} {res : V} (h : G ⟨QP,gp,0,[(RV.t 0)],fun r c => r = res /\ c = [],false⟩ [.code f38_c16,.fin] ⟨args ++ List.replicate (82 - args.length) .un,[]⟩) : Does QP gp 38 args res :=
 does_intro f38_ok func38 f38_body f38_tr f38_rs (by rw [f38_nt]; exact h)
def f39_r0 : List MO := [Qa (Qv 2) (MOp.ibox (Qn 0)),Qa (Qv 4) (MOp.alloc [(Qr Qu 0),(D.sl [])])]
def f39_c0 : MC := .reg false f39_r0
def f39_r1 : List MO := [Qa (Qv 5) (Qg 1 (Qn 2)),Qa (Qv 6) (Qf 1 false (Qn 5)),Qa (Qv 7) (Qk Qt (Qn 6)),Qa (Qv 8) (Qd (Qn 1)),Qa (Qv 9) (Qe Qt Go.BinOp.gtr (Qn 7) (Qn 8))]
def f39_c1 : MC := .reg false f39_r1
def f39_r2 : List MO := [Qa (Qv 10) (MOp.build [(Qr Qu 0),(D.sl [])] [(0,(1,(Qo (Qp (Qq (Qr Qu (-1)))))))]),Qa none (Ql 2 (Qn 4) (Qn 10))]
def f39_c2 : MC := .reg false f39_r2
def f39_c3 : MC := MC.ret
def f39_c4 : MC := .seq f39_c2 f39_c3
def f39_c5 : MC := MC.skip
def f39_c6 : MC := .cond (Qn 9) f39_c4 f39_c5
def f39_c7 : MC := .seq f39_c1 f39_c6
def f39_r8 : List MO := [Qa (Qv 11) (Qf 2 true (Qn 2)),Qa (Qv 12) (Qh 14 [(Qn 11)]),Qa none (Ql 2 (Qn 4) (Qn 12))]
def f39_c8 : MC := .reg false f39_r8
def f39_c9 : MC := MC.ret
def f39_c10 : MC := .seq f39_c8 f39_c9
def f39_c11 : MC := .seq f39_c7 f39_c10
def f39_c12 : MC := .seq f39_c0 f39_c11
noncomputable def f39_code : Code := (f39.body).getD .skip
theorem f39_body : f39.body = Qv f39_code := by kernel_rfl
theorem f39_tr : trC QP [2] f39_code = Qv f39_c12 := by kernel_rfl
theorem f39_rs : rsOf QP f39.results.toList = Qv [(RV.cell 4 2 true)] := by kernel_rfl
theorem f39_nt : f39.ntmps = 13 := by kernel_rfl
theorem f39_ok : callable QP 39 = true := by kernel_rfl
theorem f39_in {gp : Heap} {args : List V} {res : V} (h : G ⟨QP,gp,0,[(RV.cell 4 2 true)],fun r c => r = res /\ c = [],false⟩ [.code f39_c12,.fin] ⟨args ++ List.replicate (13 - args.length) .un,[]⟩) : Does QP gp 39 args res :=
 does_intro f39_ok func39 f39_body f39_tr f39_rs (by rw [f39_nt]; exact h)
def f40_r0 : List MO := [Qa (Qv 2) (MOp.ibox (Qn 0)),Qa (Qv 3) (MOp.ibox (Qn 1)),Qa (Qv 4) (Qd (Qo (Qp A.nil))),Qa (Qv 5) (Qd (Qo (Qp (Qq (Qs false))))),Qa (Qv 6) (Qd (Qo (Qp (Qq (Qr Qu 0)))))]
def f40_c0 : MC := .reg false f40_r0
def f40_r1 : List MO := [Qa (Qv 13) (Qf 2 true (Qn 2)),Qa (Qv 14) (Qf 2 true (Qn 3)),Qa (Qv 15) (MOp.bslice 2 [(Qr Qu 0),(D.sl [])] 2 [(0,(Qn 13)),(1,(Qn 14))]),Qa (Qv 16) (Qh 80 [(Qn 15)]),Qa (Qv 7) (Qd (Qn 16))]
def f40_c1 : MC := .reg false f40_r1
def f40_r2 : List MO := [Qa (Qv 17) (Qd (Qn 7)),Qa (Qv 18) (Qe Qt Go.BinOp.neq (Qn 17) (Qo (Qp (Qq (Qr Qu 0)))))]
def f40_c2 : MC := .reg false f40_r2
def f40_r3 : List MO := [Qa (Qv 19) (Qd (Qn 7)),Qa (Qv 4) (Qd (Qo (Qp A.nil))),Qa (Qv 5) (Qd (Qo (Qp (Qq (Qs false))))),Qa (Qv 6) (Qd (Qn 19))]
def f40_c3 : MC := .reg false f40_r3
def f40_c4 : MC := MC.ret
def f40_c5 : MC := .seq f40_c3 f40_c4
def f40_c6 : MC := MC.skip
def f40_c7 : MC := .cond (Qn 18) f40_c5 f40_c6
def f40_c8 : MC := .seq f40_c2 f40_c7
def f40_c9 : MC := .seq f40_c1 f40_c8
def f40_r10 : List MO := [Qa (Qv 8) (MOp.alloc [(D.sl [])])]
def f40_c10 : MC := .reg false f40_r10
def f40_r11 : List MO := [Qa (Qv 9) (MOp.alloc [D.nilI])]
def f40_c11 : MC := .reg false f40_r11
def f40_r12 : List MO := [Qa (Qv 20) (Qf 2 true (Qn 2)),Qa (Qv 21) (Qf 2 true (Qn 3)),Qa (Qv 22) (MOp.build [(Qr Qu 0),(D.sl []),(Qr Qu 0),(D.sl [])] [(0,(2,(Qn 20))),(2,(2,(Qn 21)))]),Qa (Qv 23) MOp.mkM,Qa (Qv 24) (Qg 0 (Qn 2)),Qa (Qv 25) (Qf 1 false (Qn 24)),Qa (Qv 26) (Qg 0 (Qn 3)),Qa (Qv 27) (Qf 1 false (Qn 26)),Qa (Qv 28) (MOp.build [(Qr Qu 0),(Qr Qu 0)] [(0,(1,(Qn 25))),(1,(1,(Qn 27)))]),Qa (Qv 29) (MOp.bslO 2 [(Qr Qu 0),(Qr Qu 0)] 1 [(0,(Qn 28))]),Qa (Qv 30) (MOp.build [(Qr Qu 0),(D.sl []),(Qr Qu 0),(D.sl []),(D.raw (Go.Value.map none)),(D.sl [])] [(0,(4,(Qn 22))),(4,(1,(Qn 23))),(5,(1,(Qn 29)))]),Qa (Qv 31) (MOp.box (Qn 30)),Qa (Qv 10) (Qd (Qn 31))]
def f40_c12 : MC := .reg false f40_r12
def f40_r13 : List MO := [Qa (Qv 32) (Qd (Qn 10)),Qa (Qv 33) (Qh 81 [(Qn 32)])]
def f40_c13 : MC := .reg false f40_r13
def f40_r14 : List MO := [Qa (Qv 11) (MOp.alloc [(Qr Qu 0),(Qr Qu 0)]),Qa none (Ql 2 (Qn 11) (Qn 34))]
def f40_c14 : MC := .reg false f40_r14
def f40_r15 : List MO := [Qa (Qv 12) (Qd (Qn 35))]
def f40_c15 : MC := .reg false f40_r15
def f40_c16 : MC := .seq f40_c14 f40_c15
def f40_r17 : List MO := [Qa (Qv 36) (Qf 1 false (Qn 8)),Qa (Qv 37) (Qf 2 true (Qn 11)),Qa (Qv 38) (MOp.bslice 2 [(Qr Qu 0),(Qr Qu 0)] 1 [(0,(Qn 37))]),Qa (Qv 39) (MOp.app 95 2 16 (Qn 36) (Qn 38)),Qa (Qv 40) (Qd (Qn 12)),Qa none (Ql 1 (Qn 8) (Qn 39)),Qa none (Ql 1 (Qn 9) (Qn 40))]
def f40_c17 : MC := .reg false f40_r17
def f40_c18 : MC := .blk 1 f40_c17
def f40_c19 : MC := .rf (Qn 33) [34,35] f40_c16 f40_c18
def f40_c20 : MC := .blk 0 f40_c19
def f40_c21 : MC := .seq f40_c13 f40_c20
def f40_r22 : List MO := [Qa (Qv 41) (Qf 1 false (Qn 8)),Qa (Qv 42) (Qf 1 false (Qn 9)),Qa (Qv 43) (MOp.nilq NK.ifc false (Qn 42)),Qa (Qv 4) (Qd (Qn 41)),Qa (Qv 5) (Qd (Qn 43)),Qa (Qv 6) (Qd (Qo (Qp (Qq (Qr Qu 0)))))]
def f40_c22 : MC := .reg true f40_r22
def f40_c23 : MC := MC.ret
def f40_c24 : MC := .seq f40_c22 f40_c23
def f40_c25 : MC := .seq f40_c21 f40_c24
def f40_c26 : MC := .seq f40_c12 f40_c25
def f40_c27 : MC := .seq f40_c11 f40_c26
def f40_c28 : MC := .seq f40_c10 f40_c27
def f40_c29 : MC := .seq f40_c9 f40_c28
def f40_c30 : MC := .seq f40_c0 f40_c29
noncomputable def f40_code : Code := (f40.body).getD .skip
theorem f40_body : f40.body = Qv f40_code := by kernel_rfl
theorem f40_tr : trC QP [2,3,29] f40_code = Qv f40_c30 := by kernel_rfl
theorem f40_rs : rsOf QP f40.results.toList = Qv [(RV.t 4),(RV.t 5),(RV.t 6)] := by kernel_rfl
theorem f40_nt : f40.ntmps = 44 := by kernel_rfl
theorem f40_ok : callable QP 40 = true := by kernel_rfl
theorem f40_in {gp : Heap} {args : List V} {res : V} (h : G ⟨QP,gp,0,[(RV.t 4),(RV.t 5),(RV.t 6)],fun r c => r = res /\ c = [],false⟩ [.code f40_c30,.fin] ⟨args ++ List.replicate (44 - args.length) .un,[]⟩) : Does QP gp 40 args res :=
 does_intro f40_ok func40 f40_body f40_tr f40_rs (by rw [f40_nt]; exact h)
def f41_r0 : List MO := [Qa (Qv 2) (MOp.ibox (Qn 0)),Qa (Qv 3) (MOp.ibox (Qn 1)),Qa (Qv 4) (Qd (Qo (Qp A.nil))),Qa (Qv 5) (Qd (Qo (Qp (Qq (Qs false))))),Qa (Qv 6) (Qd (Qo (Qp (Qq (Qr Qu 0)))))]
def f41_c0 : MC := .reg false f41_r0
def f41_r1 : List MO := [Qa (Qv 14) (Qf 2 true (Qn 2)),Qa (Qv 15) (Qh 17 [(Qn 14)]),Qa (Qv 13) (Qd (Qn 15)),Qa (Qv 16) (Qi (Qn 13) 0),Qa (Qv 17) (Qi (Qn 13) 1),Qa (Qv 7) (Qd (Qn 16)),Qa (Qv 8) (Qd (Qn 17))]
def f41_c1 : MC := .reg false f41_r1
def f41_r2 : List MO := [Qa (Qv 19) (Qf 2 true (Qn 3)),Qa (Qv 20) (Qh 17 [(Qn 19)]),Qa (Qv 18) (Qd (Qn 20)),Qa (Qv 21) (Qi (Qn 18) 0),Qa (Qv 22) (Qi (Qn 18) 1),Qa (Qv 9) (Qd (Qn 21)),Qa (Qv 10) (Qd (Qn 22))]
def f41_c2 : MC := .reg false f41_r2
def f41_r3 : List MO := [Qa (Qv 23) (Qd (Qn 8)),Qa (Qv 24) (Qe Qt Go.BinOp.neq (Qn 23) (Qo (Qp (Qq (Qr Qu 0)))))]
def f41_c3 : MC := .reg false f41_r3
def f41_r4 : List MO := [Qa (Qv 25) (Qd (Qn 8)),Qa (Qv 4) (Qd (Qo (Qp A.nil))),Qa (Qv 5) (Qd (Qo (Qp (Qq (Qs false))))),Qa (Qv 6) (Qd (Qn 25))]
def f41_c4 : MC := .reg false f41_r4
def f41_c5 : MC := MC.ret
def f41_c6 : MC := .seq f41_c4 f41_c5
def f41_c7 : MC := MC.skip
def f41_c8 : MC := .cond (Qn 24) f41_c6 f41_c7
def f41_c9 : MC := .seq f41_c3 f41_c8
def f41_r10 : List MO := [Qa (Qv 26) (Qd (Qn 10)),Qa (Qv 27) (Qe Qt Go.BinOp.neq (Qn 26) (Qo (Qp (Qq (Qr Qu 0)))))]
def f41_c10 : MC := .reg false f41_r10
def f41_r11 : List MO := [Qa (Qv 28) (Qd (Qn 10)),Qa (Qv 4) (Qd (Qo (Qp A.nil))),Qa (Qv 5) (Qd (Qo (Qp (Qq (Qs false))))),Qa (Qv 6) (Qd (Qn 28))]
def f41_c11 : MC := .reg false f41_r11
def f41_c12 : MC := MC.ret
def f41_c13 : MC := .seq f41_c11 f41_c12
def f41_c14 : MC := MC.skip
def f41_c15 : MC := .cond (Qn 27) f41_c13 f41_c14
def f41_c16 : MC := .seq f41_c10 f41_c15
def f41_r17 : List MO := [Qa (Qv 30) (Qf 2 true (Qn 2)),Qa (Qv 31) (Qf 2 true (Qn 3)),Qa (Qv 32) (Qg 0 (Qn 2)),Qa (Qv 33) (Qf 1 false (Qn 32)),Qa (Qv 34) (Qg 0 (Qn 3)),Qa (Qv 35) (Qf 1 false (Qn 34)),Qa (Qv 36) (MOp.build [(Qr Qu 0),(Qr Qu 0)] [(0,(1,(Qn 33))),(1,(1,(Qn 35)))]),Qa (Qv 37) (Qh 82 [(Qn 30),(Qn 31),(Qn 36),(Qo (Qp A.nil))]),Qa (Qv 29) (Qd (Qn 37)),Qa (Qv 38) (Qi (Qn 29) 0),Qa (Qv 39) (Qi (Qn 29) 1),Qa (Qv 11) (Qd (Qn 38)),Qa (Qv 12) (Qd (Qn 39))]
def f41_c17 : MC := .reg false f41_r17
def f41_r18 : List MO := [Qa (Qv 40) (Qd (Qn 11)),Qa (Qv 41) (Qd (Qn 12)),Qa (Qv 4) (Qd (Qn 40)),Qa (Qv 5) (Qd (Qn 41)),Qa (Qv 6) (Qd (Qo (Qp (Qq (Qr Qu 0)))))]
def f41_c18 : MC := .reg false f41_r18
def f41_c19 : MC := MC.ret
def f41_c20 : MC := .seq f41_c18 f41_c19
def f41_c21 : MC := .seq f41_c17 f41_c20
def f41_c22 : MC := .seq f41_c16 f41_c21
def f41_c23 : MC := .seq f41_c9 f41_c22
def f41_c24 : MC := .seq f41_c2 f41_c23
def f41_c25 : MC := .seq f41_c1 f41_c24
def f41_c26 : MC := .seq f41_c0 f41_c25
noncomputable def f41_code : Code := (f41.body).getD .skip
theorem f41_body : f41.body = Qv f41_code := by kernel_rfl
theorem f41_tr : trC QP [2,3] f41_code = Qv f41_c26 := by kernel_rfl
theorem f41_rs : rsOf QP f41.results.toList = Qv [(RV.t 4),(RV.t 5),(RV.t 6)] := by kernel_rfl
theorem f41_nt : f41.ntmps = 42 := by kernel_rfl
theorem f41_ok : callable QP 41 = true := by kernel_rfl
theorem f41_in {gp : Heap} {args : List V} {res : V} (h : G ⟨QP,gp,0,[(RV.t 4),(RV.t 5),(RV.t 6)],fun r c => r = res /\ c = [],false⟩ [.code f41_c26,.fin] ⟨args ++ List.replicate (42 - args.length) .un,[]⟩) : Does QP gp 41 args res :=
 does_intro f41_ok func41 f41_body f41_tr f41_rs (by rw [f41_nt]; exact h)
def f42_r0 : List MO := [Qa (Qv 2) (MOp.ibox (Qn 0)),Qa (Qv 3) (MOp.ibox (Qn 1)),Qa (Qv 4) (Qd (Qo (Qp (Qq (Qs false))))),Qa (Qv 5) (Qd (Qo (Qp (Qq (Qr Qu 0)))))]
def f42_c0 : MC := .reg false f42_r0
def f42_r1 : List MO := [Qa (Qv 16) (Qf 2 true (Qn 2)),Qa (Qv 17) (Qf 2 true (Qn 3)),Qa (Qv 18) (Qh 40 [(Qn 16),(Qn 17)]),Qa (Qv 15) (Qd (Qn 18)),Qa (Qv 19) (Qi (Qn 15) 0),Qa (Qv 20) (Qi (Qn 15) 1),Qa (Qv 21) (Qi (Qn 15) 2),Qa (Qv 6) (Qd (Qn 19)),Qa (Qv 7) (Qd (Qn 20)),Qa (Qv 8) (Qd (Qn 21))]
def f42_c1 : MC := .reg false f42_r1
def f42_r2 : List MO := [Qa (Qv 22) MOp.mkM,Qa (Qv 23) (MOp.build [(D.raw (Go.Value.map none))] [(0,(1,(Qn 22)))]),Qa (Qv 24) (MOp.mkMv (Go.Fn.func 83) (Qn 23)),Qa (Qv 25) MOp.mkM,Qa (Qv 26) (MOp.build [(D.raw (Go.Value.map none))] [(0,(1,(Qn 25)))]),Qa (Qv 27) (MOp.mkMv (Go.Fn.func 83) (Qn 26)),Qa (Qv 9) (Qd (Qn 24)),Qa (Qv 10) (Qd (Qn 27))]
def f42_c2 : MC := .reg false f42_r2
def f42_r3 : List MO := [Qa (Qv 28) (Qd (Qn 6)),Qa (Qv 29) (Qk Qt (Qn 28)),Qa (Qv 30) (Qd (Qo (Qp (Qq (Qr Qu 0)))))]
def f42_c3 : MC := .reg false f42_r3
def f42_r4 : List MO := [Qa (Qv 31) (Qe Qt Go.BinOp.lss (Qn 30) (Qn 29))]
def f42_c4 : MC := .reg false f42_r4
def f42_c5 : MC := MC.skip
def f42_c6 : MC := (MC.exit 0)
def f42_c7 : MC := .cond (Qn 31) f42_c5 f42_c6
def f42_r8 : List MO := [Qa (Qv 32) (Qj 2 (Qn 28) (Qn 30)),Qa (Qv 33) (Qf 2 true (Qn 32)),Qa (Qv 12) (MOp.alloc [(Qr Qu 0),(Qr Qu 0)]),Qa none (Ql 2 (Qn 12) (Qn 33))]
def f42_c8 : MC := .reg false f42_r8
def f42_r9 : List MO := [Qa (Qv 34) (Qd (Qn 9)),Qa (Qv 35) (Qg 0 (Qn 12)),Qa (Qv 36) (MOp.ild 1 false (Qn 35)),Qa (Qv 37) (Qg 1 (Qn 12)),Qa (Qv 38) (MOp.ild 1 false (Qn 37)),Qc (Qv 39) (MOp.callv (Qn 34) [(Qn 36),(Qn 38)]),Qa (Qv 40) (Qd (Qn 10)),Qa (Qv 41) (Qg 1 (Qn 12)),Qa (Qv 42) (MOp.ild 1 false (Qn 41)),Qa (Qv 43) (Qg 0 (Qn 12)),Qa (Qv 44) (MOp.ild 1 false (Qn 43)),Qc (Qv 45) (MOp.callv (Qn 40) [(Qn 42),(Qn 44)]),Qa (Qv 13) (Qd (Qn 39)),Qa (Qv 14) (Qd (Qn 45))]
def f42_c9 : MC := .reg true f42_r9
def f42_r10 : List MO := [Qa (Qv 46) (Qd (Qn 7)),Qa (Qv 47) (Qd (Qn 46)),Qb 47 true (Qv 48),Qa (Qv 48) (Qd (Qn 13)),Qa (Qv 49) (Qm (Qn 47) (Qn 48) (Qo (Qp (Qq (Qs false))))),Qa (Qv 50) (Qd (Qn 49)),Qb 50 true (Qv 51),Qa (Qv 51) (Qd (Qn 14)),Qa (Qv 52) (Qm (Qn 50) (Qn 51) (Qo (Qp (Qq (Qs false))))),Qa (Qv 7) (Qd (Qn 52))]
def f42_c10 : MC := .reg false f42_r10
def f42_c11 : MC := .seq f42_c9 f42_c10
def f42_c12 : MC := .seq f42_c8 f42_c11
def f42_c13 : MC := .blk 1 f42_c12
def f42_r14 : List MO := [Qa (Qv 53) (Qe Qt Go.BinOp.add (Qn 30) (Qo (Qp (Qq (Qr Qu 1))))),Qa (Qv 30) (Qd (Qn 53))]
def f42_c14 : MC := .reg false f42_r14
def f42_c15 : MC := .seq f42_c13 f42_c14
def f42_c16 : MC := .seq f42_c7 f42_c15
def f42_c17 : MC := .seq f42_c4 f42_c16
def f42_c18 : MC := .loop f42_c17
def f42_c19 : MC := .blk 0 f42_c18
def f42_c20 : MC := .seq f42_c3 f42_c19
def f42_r21 : List MO := [Qa (Qv 54) (Qd (Qn 7)),Qa (Qv 55) (Qd (Qn 8)),Qa (Qv 4) (Qd (Qn 54)),Qa (Qv 5) (Qd (Qn 55))]
def f42_c21 : MC := .reg false f42_r21
def f42_c22 : MC := MC.ret
def f42_c23 : MC := .seq f42_c21 f42_c22
def f42_c24 : MC := .seq f42_c20 f42_c23
def f42_c25 : MC := .seq f42_c2 f42_c24
def f42_c26 : MC := .seq f42_c1 f42_c25
def f42_c27 : MC := .seq f42_c0 f42_c26
noncomputable def f42_code : Code := (f42.body).getD .skip
theorem f42_body : f42.body = Qv f42_code := by kernel_rfl
theorem f42_tr : trC QP [2,3,1012] f42_code = Qv f42_c27 := by kernel_rfl
theorem f42_rs : rsOf QP f42.results.toList = Qv [(RV.t 4),(RV.t 5)] := by kernel_rfl
theorem f42_nt : f42.ntmps = 56 := by kernel_rfl
theorem f42_ok : callable QP 42 = true := by kernel_rfl
theorem f42_in {gp : Heap} {args : List V} {res : V} (h : G ⟨QP,gp,0,[(RV.t 4),(RV.t 5)],fun r c => r = res /\ c = [],false⟩ [.code f42_c27,.fin] ⟨args ++ List.replicate (56 - args.length) .un,[]⟩) : Does QP gp 42 args res :=
 does_intro f42_ok func42 f42_body f42_tr f42_rs (by rw [f42_nt]; exact h)
def f43_r0 : List MO := [Qa (Qv 2) (MOp.ibox (Qn 0)),Qa (Qv 3) (MOp.ibox (Qn 1)),Qa (Qv 4) (Qd (Qo (Qp (Qq (Qs false))))),Qa (Qv 5) (Qd (Qo (Qp (Qq (Qr Qu 0)))))]
def f43_c0 : MC := .reg false f43_r0
def f43_r1 : List MO := [Qa (Qv 12) (Qf 2 true (Qn 2)),Qa (Qv 13) (Qf 2 true (Qn 3)),Qa (Qv 14) (Qh 41 [(Qn 12),(Qn 13)]),Qa (Qv 11) (Qd (Qn 14)),Qa (Qv 15) (Qi (Qn 11) 0),Qa (Qv 16) (Qi (Qn 11) 1),Qa (Qv 17) (Qi (Qn 11) 2),Qa (Qv 6) (Qd (Qn 15)),Qa (Qv 7) (Qd (Qn 16)),Qa (Qv 8) (Qd (Qn 17))]
def f43_c1 : MC := .reg false f43_r1
def f43_r2 : List MO := [Qa (Qv 9) (Qd (Qo (Qp (Qq (Qr Qu 0)))))]
def f43_c2 : MC := .reg false f43_r2
def f43_r3 : List MO := [Qa (Qv 18) (Qd (Qn 9)),Qa (Qv 19) (Qd (Qn 6)),Qa (Qv 20) (Qk Qt (Qn 19)),Qa (Qv 21) (Qe Qt Go.BinOp.lss (Qn 18) (Qn 20))]
def f43_c3 : MC := .reg false f43_r3
def f43_c4 : MC := MC.skip
def f43_c5 : MC := (MC.exit 0)
def f43_c6 : MC := .cond (Qn 21) f43_c4 f43_c5
def f43_c7 : MC := .seq f43_c3 f43_c6
def f43_r8 : List MO := [Qa (Qv 10) (Qd (Qo (Qp (Qq (Qr Qu 0)))))]
def f43_c8 : MC := .reg false f43_r8
def f43_r9 : List MO := [Qa (Qv 24) (Qd (Qn 10)),Qa (Qv 25) (Qd (Qn 9)),Qa (Qv 26) (Qe Qt Go.BinOp.lss (Qn 24) (Qn 25))]
def f43_c9 : MC := .reg false f43_r9
def f43_c10 : MC := MC.skip
def f43_c11 : MC := (MC.exit 2)
def f43_c12 : MC := .cond (Qn 26) f43_c10 f43_c11
def f43_c13 : MC := .seq f43_c9 f43_c12
def f43_r14 : List MO := [Qa (Qv 29) (Qd (Qn 6)),Qa (Qv 30) (Qd (Qn 9)),Qa (Qv 31) (Qj 2 (Qn 29) (Qn 30)),Qa (Qv 32) (Qg 0 (Qn 31)),Qa (Qv 33) (Qf 1 false (Qn 32)),Qa (Qv 34) (Qd (Qn 6)),Qa (Qv 35) (Qd (Qn 10)),Qa (Qv 36) (Qj 2 (Qn 34) (Qn 35)),Qa (Qv 37) (Qg 0 (Qn 36)),Qa (Qv 38) (Qf 1 false (Qn 37)),Qa (Qv 39) (Qe Qt Go.BinOp.eql (Qn 33) (Qn 38)),Qa (Qv 40) (Qd (Qn 6)),Qa (Qv 41) (Qd (Qn 9)),Qa (Qv 42) (Qj 2 (Qn 40) (Qn 41)),Qa (Qv 43) (Qg 1 (Qn 42)),Qa (Qv 44) (Qf 1 false (Qn 43)),Qa (Qv 45) (Qd (Qn 6)),Qa (Qv 46) (Qd (Qn 10)),Qa (Qv 47) (Qj 2 (Qn 45) (Qn 46)),Qa (Qv 48) (Qg 1 (Qn 47)),Qa (Qv 49) (Qf 1 false (Qn 48)),Qa (Qv 50) (Qe Qt Go.BinOp.eql (Qn 44) (Qn 49)),Qa (Qv 51) (Qe Leaf.b Go.BinOp.neq (Qn 39) (Qn 50))]
def f43_c14 : MC := .reg true f43_r14
def f43_r15 : List MO := [Qa (Qv 7) (Qd (Qo (Qp (Qq (Qs false)))))]
def f43_c15 : MC := .reg false f43_r15
def f43_c16 : MC := MC.skip
def f43_c17 : MC := .cond (Qn 51) f43_c15 f43_c16
def f43_c18 : MC := .seq f43_c14 f43_c17
def f43_c19 : MC := .blk 3 f43_c18
def f43_r20 : List MO := [Qa (Qv 27) (Qd (Qn 10)),Qa (Qv 28) (Qe Qt Go.BinOp.add (Qn 27) (Qo (Qp (Qq (Qr Qu 1))))),Qa (Qv 10) (Qd (Qn 28))]
def f43_c20 : MC := .reg false f43_r20
def f43_c21 : MC := .seq f43_c19 f43_c20
def f43_c22 : MC := .seq f43_c13 f43_c21
def f43_c23 : MC := .loop f43_c22
def f43_c24 : MC := .blk 2 f43_c23
def f43_c25 : MC := .seq f43_c8 f43_c24
def f43_c26 : MC := .blk 1 f43_c25
def f43_r27 : List MO := [Qa (Qv 22) (Qd (Qn 9)),Qa (Qv 23) (Qe Qt Go.BinOp.add (Qn 22) (Qo (Qp (Qq (Qr Qu 1))))),Qa (Qv 9) (Qd (Qn 23))]
def f43_c27 : MC := .reg false f43_r27
def f43_c28 : MC := .seq f43_c26 f43_c27
def f43_c29 : MC := .seq f43_c7 f43_c28
def f43_c30 : MC := .loop f43_c29
def f43_c31 : MC := .blk 0 f43_c30
def f43_c32 : MC := .seq f43_c2 f43_c31
def f43_r33 : List MO := [Qa (Qv 52) (Qd (Qn 7)),Qa (Qv 53) (Qd (Qn 8)),Qa (Qv 4) (Qd (Qn 52)),Qa (Qv 5) (Qd (Qn 53))]
def f43_c33 : MC := .reg false f43_r33
def f43_c34 : MC := MC.ret
def f43_c35 : MC := .seq f43_c33 f43_c34
def f43_c36 : MC := .seq f43_c32 f43_c35
def f43_c37 : MC := .seq f43_c1 f43_c36
def f43_c38 : MC := .seq f43_c0 f43_c37
noncomputable def f43_code : Code := (f43.body).getD .skip
theorem f43_body : f43.body = Qv f43_code := by kernel_rfl
theorem f43_tr : trC QP [2,3] f43_code = Qv f43_c38 := by kernel_rfl
theorem f43_rs : rsOf QP f43.results.toList = Qv [(RV.t 4),(RV.t 5)] := by kernel_rfl
theorem f43_nt : f43.ntmps = 54 := by kernel_rfl
theorem f43_ok : callable QP 43 = true := by kernel_rfl
theorem f43_in {gp : Heap} {args : List V} {res : V} (h : G ⟨QP,gp,0,[(RV.t 4),(RV.t 5)],fun r c => r = res /\ c = [],false⟩ [.code f43_c38,.fin] ⟨args ++ List.replicate (54 - args.length) .un,[]⟩) : Does QP gp 43 args res :=
 does_intro f43_ok func43 f43_body f43_tr f43_rs (by rw [f43_nt]; exact h)
def f44_r0 : List MO := [Qa (Qv 4) (Qd (Qo (Qp (Qq (Qs false)))))]
def f44_c0 : MC := .reg false f44_r0
def f44_r1 : List MO := [Qa (Qv 6) (Qd (Qn 0)),Qa (Qv 7) (Qk Qt (Qn 6)),Qa (Qv 8) (Qd (Qn 1)),Qa (Qv 9) (Qk Qt (Qn 8)),Qa (Qv 10) (Qe Qt Go.BinOp.neq (Qn 7) (Qn 9))]
def f44_c1 : MC := .reg false f44_r1
def f44_r2 : List MO := [Qa (Qv 4) (Qd (Qo (Qp (Qq (Qs false)))))]
def f44_c2 : MC := .reg false f44_r2
def f44_c3 : MC := MC.ret
def f44_c4 : MC := .seq f44_c2 f44_c3
def f44_c5 : MC := MC.skip
def f44_c6 : MC := .cond (Qn 10) f44_c4 f44_c5
def f44_c7 : MC := .seq f44_c1 f44_c6
def f44_r8 : List MO := [Qa (Qv 5) (Qd (Qo (Qp (Qq (Qr Qu 0)))))]
def f44_c8 : MC := .reg false f44_r8
def f44_r9 : List MO := [Qa (Qv 11) (Qd (Qn 5)),Qa (Qv 12) (Qd (Qn 0)),Qa (Qv 13) (Qk Qt (Qn 12)),Qa (Qv 14) (Qe Qt Go.BinOp.lss (Qn 11) (Qn 13))]
def f44_c9 : MC := .reg false f44_r9
def f44_c10 : MC := MC.skip
def f44_c11 : MC := (MC.exit 0)
def f44_c12 : MC := .cond (Qn 14) f44_c10 f44_c11
def f44_c13 : MC := .seq f44_c9 f44_c12
def f44_r14 : List MO := [Qa (Qv 17) (Qd (Qn 0)),Qa (Qv 18) (Qd (Qn 5)),Qa (Qv 19) (Qj 2 (Qn 17) (Qn 18)),Qa (Qv 20) (Qf 2 true (Qn 19)),Qa (Qv 21) (Qd (Qn 1)),Qa (Qv 22) (Qd (Qn 5)),Qa (Qv 23) (Qj 2 (Qn 21) (Qn 22)),Qa (Qv 24) (Qf 2 true (Qn 23)),Qa (Qv 25) (MOp.eqs true [Qt,Qt] (Qn 20) (Qn 24))]
def f44_c14 : MC := .reg true f44_r14
def f44_r15 : List MO := [Qa (Qv 4) (Qd (Qo (Qp (Qq (Qs false)))))]
def f44_c15 : MC := .reg false f44_r15
def f44_c16 : MC := MC.ret
def f44_c17 : MC := .seq f44_c15 f44_c16
def f44_c18 : MC := MC.skip
def f44_c19 : MC := .cond (Qn 25) f44_c17 f44_c18
def f44_c20 : MC := .seq f44_c14 f44_c19
def f44_c21 : MC := .blk 1 f44_c20
def f44_r22 : List MO := [Qa (Qv 15) (Qd (Qn 5)),Qa (Qv 16) (Qe Qt Go.BinOp.add (Qn 15) (Qo (Qp (Qq (Qr Qu 1))))),Qa (Qv 5) (Qd (Qn 16))]
def f44_c22 : MC := .reg false f44_r22
def f44_c23 : MC := .seq f44_c21 f44_c22
def f44_c24 : MC := .seq f44_c13 f44_c23
def f44_c25 : MC := .loop f44_c24
def f44_c26 : MC := .blk 0 f44_c25
def f44_c27 : MC := .seq f44_c8 f44_c26
def f44_r28 : List MO := [Qa (Qv 4) (Qd (Qo (Qp (Qq (Qs true)))))]
def f44_c28 : MC := .reg false f44_r28
def f44_c29 : MC := MC.ret
def f44_c30 : MC := .seq f44_c28 f44_c29
def f44_c31 : MC := .seq f44_c27 f44_c30
def f44_c32 : MC := .seq f44_c7 f44_c31
def f44_c33 : MC := .seq f44_c0 f44_c32
noncomputable def f44_code : Code := (f44.body).getD .skip
theorem f44_body : f44.body = Qv f44_code := by kernel_rfl
theorem f44_tr : trC QP [] f44_code = Qv f44_c33 := by kernel_rfl
theorem f44_rs : rsOf QP f44.results.toList = Qv [(RV.t 4)] := by kernel_rfl
theorem f44_nt : f44.ntmps = 26 := by kernel_rfl
theorem f44_ok : callable QP 44 = true := by kernel_rfl
theorem f44_in {gp : Heap} {args : List V} {res : V} (h : G ⟨QP,gp,0,[(RV.t 4)],fun r c => r = res /\ c = [],false⟩ [.code f44_c33,.fin] ⟨args ++ List.replicate (26 - args.length) .un,[]⟩) : Does QP gp 44 args res :=
 does_intro f44_ok func44 f44_body f44_tr f44_rs (by rw [f44_nt]; exact h)
def f60_r0 : List MO := [Qa (Qv 4) (MOp.ibox (Qn 0)),Qa (Qv 6) (MOp.ibox (Qn 2)),Qa (Qv 8) (Qd (Qo (Qp (Qq (Qs false)))))]
def f60_c0 : MC := .reg false f60_r0
def f60_r1 : List MO := [Qa (Qv 15) (Qg 1 (Qn 4)),Qa (Qv 16) (Qf 1 false (Qn 15)),Qa (Qv 17) (Qd (Qn 1)),Qa (Qv 18) (Qj 6 (Qn 16) (Qn 17)),Qa (Qv 19) (Qf 6 true (Qn 18)),Qa (Qv 9) (MOp.alloc [(Qr Qu 0),(Qr Qu 0),(Qr Qu 0),(D.str (ByteArray.mk #[])),(D.sl []),(D.sl [])]),Qa none (Ql 6 (Qn 9) (Qn 19))]
def f60_c1 : MC := .reg false f60_r1
def f60_r2 : List MO := [Qa (Qv 20) (Qg 1 (Qn 6)),Qa (Qv 21) (Qf 1 false (Qn 20)),Qa (Qv 22) (Qd (Qn 3)),Qa (Qv 23) (Qj 6 (Qn 21) (Qn 22)),Qa (Qv 24) (Qf 6 true (Qn 23)),Qa (Qv 10) (MOp.alloc [(Qr Qu 0),(Qr Qu 0),(Qr Qu 0),(D.str (ByteArray.mk #[])),(D.sl []),(D.sl [])]),Qa none (Ql 6 (Qn 10) (Qn 24))]
def f60_c2 : MC := .reg false f60_r2
def f60_r3 : List MO := [Qa (Qv 26) (Qf 2 true (Qn 4)),Qa (Qv 27) (Qd (Qn 1)),Qa (Qv 28) (Qh 21 [(Qn 26),(Qn 27)]),Qa (Qv 25) (Qd (Qn 28)),Qa (Qv 29) (Qi (Qn 25) 0),Qa (Qv 30) (Qi (Qn 25) 1),Qa (Qv 11) (Qd (Qn 29)),Qa (Qv 12) (Qd (Qn 30))]
def f60_c3 : MC := .reg false f60_r3
def f60_r4 : List MO := [Qa (Qv 32) (Qf 2 true (Qn 6)),Qa (Qv 33) (Qd (Qn 3)),Qa (Qv 34) (Qh 21 [(Qn 32),(Qn 33)]),Qa (Qv 31) (Qd (Qn 34)),Qa (Qv 35) (Qi (Qn 31) 0),Qa (Qv 36) (Qi (Qn 31) 1),Qa (Qv 13) (Qd (Qn 35)),Qa (Qv 14) (Qd (Qn 36))]
def f60_c4 : MC := .reg false f60_r4
def f60_r5 : List MO := [Qa (Qv 37) (Qg 0 (Qn 9)),Qa (Qv 38) (Qf 1 false (Qn 37)),Qa (Qv 39) (Qg 0 (Qn 10)),Qa (Qv 40) (Qf 1 false (Qn 39)),Qa (Qv 41) (Qe Qt Go.BinOp.eql (Qn 38) (Qn 40)),Qa (Qv 42) (Qd (Qn 41)),Qb 42 true (Qv 43),Qa (Qv 43) (Qg 1 (Qn 9)),Qb 42 true (Qv 44),Qa (Qv 44) (Qf 3 true (Qn 43)),Qb 42 true (Qv 45),Qa (Qv 45) (Qg 1 (Qn 10)),Qb 42 true (Qv 46),Qa (Qv 46) (Qf 3 true (Qn 45)),Qb 42 true (Qv 47),Qa (Qv 47) (MOp.eqs false [Qt,Qt,Leaf.s] (Qn 44) (Qn 46)),Qa (Qv 48) (Qm (Qn 42) (Qn 47) (Qo (Qp (Qq (Qs false))))),Qa (Qv 49) (Qd (Qn 48)),Qb 49 true (Qv 50),Qa (Qv 50) (Qd (Qn 11)),Qb 49 true (Qv 51),Qa (Qv 51) (Qd (Qn 13)),Qb 49 true (Qv 52),Qa (Qv 52) (Qh 27 [(Qn 50),(Qn 51)]),Qa (Qv 53) (Qm (Qn 49) (Qn 52) (Qo (Qp (Qq (Qs false))))),Qa (Qv 54) (Qd (Qn 53)),Qb 54 true (Qv 55),Qa (Qv 55) (Qg 5 (Qn 9)),Qb 54 true (Qv 56),Qa (Qv 56) (Qf 1 false (Qn 55)),Qb 54 true (Qv 57),Qa (Qv 57) (Qk Qt (Qn 56)),Qb 54 true (Qv 58),Qa (Qv 58) (Qg 5 (Qn 10)),Qb 54 true (Qv 59),Qa (Qv 59) (Qf 1 false (Qn 58)),Qb 54 true (Qv 60),Qa (Qv 60) (Qk Qt (Qn 59)),Qb 54 true (Qv 61),Qa (Qv 61) (Qe Qt Go.BinOp.eql (Qn 57) (Qn 60)),Qa (Qv 62) (Qm (Qn 54) (Qn 61) (Qo (Qp (Qq (Qs false))))),Qa (Qv 8) (Qd (Qn 62))]
def f60_c5 : MC := .reg false f60_r5
def f60_c6 : MC := MC.ret
def f60_c7 : MC := .seq f60_c5 f60_c6
def f60_c8 : MC := .seq f60_c4 f60_c7
def f60_c9 : MC := .seq f60_c3 f60_c8
def f60_c10 : MC := .seq f60_c2 f60_c9
def f60_c11 : MC := .seq f60_c1 f60_c10
def f60_c12 : MC := .seq f60_c0 f60_c11
noncomputable def f60_code : Code := (f60.body).getD .skip
theorem f60_body : f60.body = Qv f60_code := by kernel_rfl
theorem f60_tr : trC QP [4,6] f60_code = Qv f60_c12 := by kernel_rfl
theorem f60_rs : rsOf QP f60.results.toList = Qv [(RV.t 8)] := by kernel_rfl
theorem f60_nt : f60.ntmps = 63 := by kernel_rfl
theorem f60_ok : callable QP 60 = true := by kernel_rfl
theorem f60_in {gp : Heap} {args : List V} {res : V} (h : G ⟨QP,gp,0,[(RV.t 8)],fun r c => r = res /\ c = [],false⟩ [.code f60_c12,.fin] ⟨args ++ List.replicate (63 - args.length) .un,[]⟩) : Does QP gp 60 args res :=
 does_intro f60_ok func60 f60_body f60_tr f60_rs (by rw [f60_nt]; exact h)
def f80_r0 : List MO := [Qa (Qv 2) (Qd (Qo (Qp (Qq (Qr Qu 0)))))]
def f80_c0 : MC := .reg false f80_r0
def f80_r1 : List MO := [Qa (Qv 7) (Qd (Qn 0)),Qa (Qv 8) (Qk Qt (Qn 7)),Qa (Qv 9) (Qd (Qo (Qp (Qq (Qr Qu 0)))))]
def f80_c1 : MC := .reg false f80_r1
def f80_r2 : List MO := [Qa (Qv 10) (Qe Qt Go.BinOp.lss (Qn 9) (Qn 8))]
def f80_c2 : MC := .reg false f80_r2
def f80_c3 : MC := MC.skip
def f80_c4 : MC := (MC.exit 0)
def f80_c5 : MC := .cond (Qn 10) f80_c3 f80_c4
def f80_r6 : List MO := [Qa (Qv 11) (Qj 2 (Qn 7) (Qn 9)),Qa (Qv 12) (Qf 2 true (Qn 11)),Qa (Qv 4) (MOp.alloc [(Qr Qu 0),(D.sl [])]),Qa none (Ql 2 (Qn 4) (Qn 12))]
def f80_c6 : MC := .reg false f80_r6
def f80_r7 : List MO := [Qa (Qv 14) (Qf 2 true (Qn 4)),Qa (Qv 15) (Qh 16 [(Qn 14)]),Qa (Qv 13) (Qd (Qn 15)),Qa (Qv 16) (Qi (Qn 13) 0),Qa (Qv 17) (Qi (Qn 13) 1),Qa (Qv 5) (Qd (Qn 16)),Qa (Qv 6) (Qd (Qn 17))]
def f80_c7 : MC := .reg false f80_r7
def f80_r8 : List MO := [Qa (Qv 18) (Qd (Qn 6)),Qa (Qv 19) (Qe Qt Go.BinOp.neq (Qn 18) (Qo (Qp (Qq (Qr Qu 0)))))]
def f80_c8 : MC := .reg false f80_r8
def f80_r9 : List MO := [Qa (Qv 20) (Qd (Qn 6)),Qa (Qv 2) (Qd (Qn 20))]
def f80_c9 : MC := .reg false f80_r9
def f80_c10 : MC := MC.ret
def f80_c11 : MC := .seq f80_c9 f80_c10
def f80_c12 : MC := MC.skip
def f80_c13 : MC := .cond (Qn 19) f80_c11 f80_c12
def f80_c14 : MC := .seq f80_c8 f80_c13
def f80_c15 : MC := .seq f80_c7 f80_c14
def f80_c16 : MC := .seq f80_c6 f80_c15
def f80_c17 : MC := .blk 1 f80_c16
def f80_r18 : List MO := [Qa (Qv 21) (Qe Qt Go.BinOp.add (Qn 9) (Qo (Qp (Qq (Qr Qu 1))))),Qa (Qv 9) (Qd (Qn 21))]
def f80_c18 : MC := .reg false f80_r18
def f80_c19 : MC := .seq f80_c17 f80_c18
def f80_c20 : MC := .seq f80_c5 f80_c19
def f80_c21 : MC := .seq f80_c2 f80_c20
def f80_c22 : MC := .loop f80_c21
def f80_c23 : MC := .blk 0 f80_c22
def f80_c24 : MC := .seq f80_c1 f80_c23
def f80_r25 : List MO := [Qa (Qv 2) (Qd (Qo (Qp (Qq (Qr Qu 0)))))]
def f80_c25 : MC := .reg false f80_r25
def f80_c26 : MC := MC.ret
def f80_c27 : MC := .seq f80_c25 f80_c26
def f80_c28 : MC := .seq f80_c24 f80_c27
def f80_c29 : MC := .seq f80_c0 f80_c28
noncomputable def f80_code : Code := (f80.body).getD .skip
theorem f80_body : f80.body = Qv f80_code := by kernel_rfl
theorem f80_tr : trC QP [] f80_code = Qv f80_c29 := by kernel_rfl
theorem f80_rs : rsOf QP f80.results.toList = Qv [(RV.t 2)] := by kernel_rfl
theorem f80_nt : f80.ntmps = 22 := by kernel_rfl
theorem f80_ok : callable QP 80 = true := by kernel_rfl
theorem f80_in {gp : Heap} {args : List V} {res : V} (h : G ⟨QP,gp,0,[(RV.t 2)],fun r c => r = res /\ c = [],false⟩ [.code f80_c29,.fin] ⟨args ++ List.replicate (22 - args.length) .un,[]⟩) : Does QP gp 80 args res :=
 does_intro f80_ok func80 f80_body f80_tr f80_rs (by rw [f80_nt]; exact h)
def f81_r0 : List MO := [Qa (Qv 1) (MOp.box (Qn 0)),Qa (Qv 2) (Qd (Qo (Qp (Qq D.nilF))))]
def f81_c0 : MC := .reg false f81_r0
def f81_r1 : List MO := [Qa (Qv 3) (MOp.mkF (Go.Fn.func 109) [(Qn 1)]),Qa (Qv 2) (Qd (Qn 3))]
def f81_c1 : MC := .reg false f81_r1
def f81_c2 : MC := MC.ret
def f81_c3 : MC := .seq f81_c1 f81_c2
def f81_c4 : MC := .seq f81_c0 f81_c3
noncomputable def f81_code : Code := (f81.body).getD .skip
theorem f81_body : f81.body = Qv f81_code := by kernel_rfl
theorem f81_tr : trC QP [] f81_code = Qv f81_c4 := by kernel_rfl
theorem f81_rs : rsOf QP f81.results.toList = Qv [(RV.t 2)] := by kernel_rfl
theorem f81_nt : f81.ntmps = 4 := by kernel_rfl
theorem f81_ok : callable QP 81 = true := by kernel_rfl
theorem f81_tri {gp : Heap} {args : List V} {pre : List Ch} {R : V -> List Ch -> Prop} (h : G ⟨QP,gp,pre.length,[(RV.t 2)],R,false⟩ [.code f81_c4,.fin] ⟨args ++ List.replicate (4 - args.length) .un,pre⟩) : Tri QP gp 81 args pre R :=
 tri_intro func81 f81_body f81_tr f81_rs (by rw [f81_nt]; exact h)
def f82_r0 : List MO := [Qa (Qv 4) (MOp.ibox (Qn 0)),Qa (Qv 5) (MOp.ibox (Qn 1)),Qa (Qv 6) (MOp.ibox (Qn 2)),Qa (Qv 8) (Qd (Qo (Qp A.nil))),Qa (Qv 9) (Qd (Qo (Qp (Qq (Qs false)))))]
def f82_c0 : MC := .reg false f82_r0
def f82_r1 : List MO := [Qa (Qv 17) (Qd (Qn 3)),Qa (Qv 18) (Qf 2 true (Qn 6)),Qa (Qv 19) (Qh 114 [(Qn 17),(Qn 18)])]
def f82_c1 : MC := .reg false f82_r1
def f82_r2 : List MO := [Qa (Qv 20) (Qd (Qn 3)),Qa (Qv 8) (Qd (Qn 20)),Qa (Qv 9) (Qd (Qo (Qp (Qq (Qs true)))))]
def f82_c2 : MC := .reg false f82_r2
def f82_c3 : MC := MC.ret
def f82_c4 : MC := .seq f82_c2 f82_c3
def f82_c5 : MC := MC.skip
def f82_c6 : MC := .cond (Qn 19) f82_c4 f82_c5
def f82_c7 : MC := .seq f82_c1 f82_c6
def f82_r8 : List MO := [Qa (Qv 21) (Qd (Qn 3)),Qa (Qv 22) (Qf 2 true (Qn 6)),Qa (Qv 23) (MOp.bslice 2 [(Qr Qu 0),(Qr Qu 0)] 1 [(0,(Qn 22))]),Qa (Qv 24) (MOp.app 95 2 16 (Qn 21) (Qn 23)),Qa (Qv 3) (Qd (Qn 24))]
def f82_c8 : MC := .reg false f82_r8
def f82_r9 : List MO := [Qa (Qv 25) (Qf 2 true (Qn 4)),Qa (Qv 26) (Qg 0 (Qn 6)),Qa (Qv 27) (Qf 1 false (Qn 26)),Qa (Qv 28) (Qf 2 true (Qn 5)),Qa (Qv 29) (Qg 1 (Qn 6)),Qa (Qv 30) (Qf 1 false (Qn 29)),Qa (Qv 31) (Qh 60 [(Qn 25),(Qn 27),(Qn 28),(Qn 30)]),Qa (Qv 32) (MOp.not (Qn 31))]
def f82_c9 : MC := .reg false f82_r9
def f82_r10 : List MO := [Qa (Qv 33) (Qd (Qn 3)),Qa (Qv 8) (Qd (Qn 33)),Qa (Qv 9) (Qd (Qo (Qp (Qq (Qs false)))))]
def f82_c10 : MC := .reg false f82_r10
def f82_c11 : MC := MC.ret
def f82_c12 : MC := .seq f82_c10 f82_c11
def f82_c13 : MC := MC.skip
def f82_c14 : MC := .cond (Qn 32) f82_c12 f82_c13
def f82_c15 : MC := .seq f82_c9 f82_c14
def f82_r16 : List MO := [Qa (Qv 35) (Qf 2 true (Qn 4)),Qa (Qv 36) (Qg 0 (Qn 6)),Qa (Qv 37) (Qf 1 false (Qn 36)),Qa (Qv 38) (Qh 19 [(Qn 35),(Qn 37)]),Qa (Qv 34) (Qd (Qn 38)),Qa (Qv 39) (Qi (Qn 34) 0),Qa (Qv 40) (Qi (Qn 34) 1),Qa (Qv 10) (Qd (Qn 39)),Qa (Qv 11) (Qd (Qn 40))]
def f82_c16 : MC := .reg false f82_r16
def f82_r17 : List MO := [Qa (Qv 42) (Qf 2 true (Qn 5)),Qa (Qv 43) (Qg 1 (Qn 6)),Qa (Qv 44) (Qf 1 false (Qn 43)),Qa (Qv 45) (Qh 19 [(Qn 42),(Qn 44)]),Qa (Qv 41) (Qd (Qn 45)),Qa (Qv 46) (Qi (Qn 41) 0),Qa (Qv 47) (Qi (Qn 41) 1),Qa (Qv 12) (Qd (Qn 46)),Qa (Qv 13) (Qd (Qn 47))]
def f82_c17 : MC := .reg false f82_r17
def f82_r18 : List MO := [Qa (Qv 14) (Qd (Qo (Qp (Qq (Qr Qu 0)))))]
def f82_c18 : MC := .reg false f82_r18
def f82_r19 : List MO := [Qa (Qv 48) (Qd (Qn 14)),Qa (Qv 49) (Qd (Qn 10)),Qa (Qv 50) (Qk Qt (Qn 49)),Qa (Qv 51) (Qe Qt Go.BinOp.lss (Qn 48) (Qn 50))]
def f82_c19 : MC := .reg false f82_r19
def f82_c20 : MC := MC.skip
def f82_c21 : MC := (MC.exit 0)
def f82_c22 : MC := .cond (Qn 51) f82_c20 f82_c21
def f82_c23 : MC := .seq f82_c19 f82_c22
def f82_r24 : List MO := [Qa (Qv 55) (Qf 2 true (Qn 4)),Qa (Qv 56) (Qf 2 true (Qn 5)),Qa (Qv 57) (Qd (Qn 10)),Qa (Qv 58) (Qd (Qn 14)),Qa (Qv 59) (Qj 1 (Qn 57) (Qn 58)),Qa (Qv 60) (Qf 1 false (Qn 59)),Qa (Qv 61) (Qd (Qn 12)),Qa (Qv 62) (Qd (Qn 14)),Qa (Qv 63) (Qj 1 (Qn 61) (Qn 62)),Qa (Qv 64) (Qf 1 false (Qn 63)),Qa (Qv 65) (MOp.build [(Qr Qu 0),(Qr Qu 0)] [(0,(1,(Qn 60))),(1,(1,(Qn 64)))]),Qa (Qv 66) (Qd (Qn 3)),Qc (Qv 67) (Qh 82 [(Qn 55),(Qn 56),(Qn 65),(Qn 66)]),Qa (Qv 54) (Qd (Qn 67)),Qa (Qv 68) (Qi (Qn 54) 0),Qa (Qv 69) (Qi (Qn 54) 1),Qa (Qv 15) (Qd (Qn 68)),Qa (Qv 16) (Qd (Qn 69))]
def f82_c24 : MC := .reg true f82_r24
def f82_r25 : List MO := [Qa (Qv 70) (Qd (Qn 15)),Qa (Qv 3) (Qd (Qn 70))]
def f82_c25 : MC := .reg false f82_r25
def f82_r26 : List MO := [Qa (Qv 71) (Qd (Qn 16)),Qa (Qv 72) (MOp.not (Qn 71))]
def f82_c26 : MC := .reg false f82_r26
def f82_r27 : List MO := [Qa (Qv 73) (Qd (Qn 3)),Qa (Qv 8) (Qd (Qn 73)),Qa (Qv 9) (Qd (Qo (Qp (Qq (Qs false)))))]
def f82_c27 : MC := .reg false f82_r27
def f82_c28 : MC := MC.ret
def f82_c29 : MC := .seq f82_c27 f82_c28
def f82_c30 : MC := MC.skip
def f82_c31 : MC := .cond (Qn 72) f82_c29 f82_c30
def f82_c32 : MC := .seq f82_c26 f82_c31
def f82_c33 : MC := .seq f82_c25 f82_c32
def f82_c34 : MC := .seq f82_c24 f82_c33
def f82_c35 : MC := .blk 1 f82_c34
def f82_r36 : List MO := [Qa (Qv 52) (Qd (Qn 14)),Qa (Qv 53) (Qe Qt Go.BinOp.add (Qn 52) (Qo (Qp (Qq (Qr Qu 1))))),Qa (Qv 14) (Qd (Qn 53))]
def f82_c36 : MC := .reg false f82_r36
def f82_c37 : MC := .seq f82_c35 f82_c36
def f82_c38 : MC := .seq f82_c23 f82_c37
def f82_c39 : MC := .loop f82_c38
def f82_c40 : MC := .blk 0 f82_c39
def f82_c41 : MC := .seq f82_c18 f82_c40
def f82_r42 : List MO := [Qa (Qv 74) (Qd (Qn 3)),Qa (Qv 8) (Qd (Qn 74)),Qa (Qv 9) (Qd (Qo (Qp (Qq (Qs true)))))]
def f82_c42 : MC := .reg false f82_r42
def f82_c43 : MC := MC.ret
def f82_c44 : MC := .seq f82_c42 f82_c43
def f82_c45 : MC := .seq f82_c41 f82_c44
def f82_c46 : MC := .seq f82_c17 f82_c45
def f82_c47 : MC := .seq f82_c16 f82_c46
def f82_c48 : MC := .seq f82_c15 f82_c47
def f82_c49 : MC := .seq f82_c8 f82_c48
def f82_c50 : MC := .seq f82_c7 f82_c49
def f82_c51 : MC := .seq f82_c0 f82_c50
noncomputable def f82_code : Code := (f82.body).getD .skip
theorem f82_body : f82.body = Qv f82_code := by kernel_rfl
theorem f82_tr : trC QP [4,5,6] f82_code = Qv f82_c51 := by kernel_rfl
theorem f82_rs : rsOf QP f82.results.toList = Qv [(RV.t 8),(RV.t 9)] := by kernel_rfl
theorem f82_nt : f82.ntmps = 75 := by kernel_rfl
theorem f82_ok : callable QP 82 = true := by kernel_rfl
theorem f82_tri {gp : Heap} {args : List V} {pre : List Ch} {R : V -> List Ch -> Prop} (h : G ⟨QP,gp,pre.length,[(RV.t 8),(RV.t 9)],R,false⟩ [.code f82_c51,.fin] ⟨args ++ List.replicate (75 - args.length) .un,pre⟩) : Tri QP gp 82 args pre R :=
 tri_intro func82 f82_body f82_tr f82_rs (by rw [f82_nt]; exact h)
def f83_r0 : List MO := [Qa (Qv 3) (MOp.box (Qn 0)),Qa (Qv 6) (Qd (Qo (Qp (Qq (Qs false)))))]
def f83_c0 : MC := .reg false f83_r0
def f83_r1 : List MO := [Qa (Qv 10) (Qg 0 (Qn 3)),Qa (Qv 11) (Qf 1 false (Qn 10)),Qa (Qv 12) (Qd (Qn 1)),Qa (Qv 13) (MOp.lkp true (Qp (Qq (Qr Qu 0))) false [Qt] (Qn 11) (Qn 12)),Qa (Qv 9) (Qd (Qn 13)),Qa (Qv 14) (Qi (Qn 9) 0),Qa (Qv 15) (Qi (Qn 9) 1),Qa (Qv 7) (Qd (Qn 14)),Qa (Qv 8) (Qd (Qn 15))]
def f83_c1 : MC := .reg false f83_r1
def f83_r2 : List MO := [Qa (Qv 16) (Qg 0 (Qn 3)),Qa (Qv 17) (Qf 1 false (Qn 16)),Qa (Qv 18) (Qd (Qn 1)),Qa (Qv 19) (Qd (Qn 2)),Qa none (MOp.mupd false [Qt] (Qn 17) (Qn 18) (Qn 19))]
def f83_c2 : MC := .reg false f83_r2
def f83_r3 : List MO := [Qa (Qv 20) (Qd (Qn 8)),Qa (Qv 21) (MOp.not (Qn 20)),Qa (Qv 22) (Qd (Qn 21)),Qb 22 false (Qv 23),Qa (Qv 23) (Qd (Qn 7)),Qb 22 false (Qv 24),Qa (Qv 24) (Qd (Qn 2)),Qb 22 false (Qv 25),Qa (Qv 25) (Qe Qt Go.BinOp.eql (Qn 23) (Qn 24)),Qa (Qv 26) (Qm (Qn 22) (Qo (Qp (Qq (Qs true)))) (Qn 25)),Qa (Qv 6) (Qd (Qn 26))]
def f83_c3 : MC := .reg false f83_r3
def f83_c4 : MC := MC.ret
def f83_c5 : MC := .seq f83_c3 f83_c4
def f83_c6 : MC := .seq f83_c2 f83_c5
def f83_c7 : MC := .seq f83_c1 f83_c6
def f83_c8 : MC := .seq f83_c0 f83_c7
noncomputable def f83_code : Code := (f83.body).getD .skip
theorem f83_body : f83.body = Qv f83_code := by kernel_rfl
theorem f83_tr : trC QP [] f83_code = Qv f83_c8 := by kernel_rfl
theorem f83_rs : rsOf QP f83.results.toList = Qv [(RV.t 6)] := by kernel_rfl
theorem f83_nt : f83.ntmps = 27 := by kernel_rfl
theorem f83_ok : callable QP 83 = true := by kernel_rfl
theorem f83_tri {gp : Heap} {args : List V} {pre : List Ch} {R : V -> List Ch -> Prop} (h : G ⟨QP,gp,pre.length,[(RV.t 6)],R,false⟩ [.code f83_c8,.fin] ⟨args ++ List.replicate (27 - args.length) .un,pre⟩) : Tri QP gp 83 args pre R :=
 tri_intro func83 f83_body f83_tr f83_rs (by rw [f83_nt]; exact h)
def f109_c0 : MC := MC.skip
def f109_r1 : List MO := [Qa (Qv 6) (Qf 1 false (Qn 1)),Qa (Qv 7) (MOp.nck (Qn 6)),Qa (Qv 8) (Qg 5 (Qn 7)),Qa (Qv 9) (Qf 1 false (Qn 8)),Qa (Qv 10) (Qk Qt (Qn 9)),Qa (Qv 11) (Qe Qt Go.BinOp.gtr (Qn 10) (Qo (Qp (Qq (Qr Qu 0)))))]
def f109_c1 : MC := .reg false f109_r1
def f109_c2 : MC := MC.skip
def f109_c3 : MC := (MC.exit 0)
def f109_c4 : MC := .cond (Qn 11) f109_c2 f109_c3
def f109_c5 : MC := .seq f109_c1 f109_c4
def f109_r6 : List MO := [Qa (Qv 12) (Qf 1 false (Qn 1)),Qa (Qv 13) (MOp.nck (Qn 12)),Qa (Qv 14) (Qg 5 (Qn 13)),Qa (Qv 15) (Qf 1 false (Qn 14)),Qa (Qv 16) (Qk Qt (Qn 15)),Qa (Qv 17) (Qe Qt Go.BinOp.sub (Qn 16) (Qo (Qp (Qq (Qr Qu 1))))),Qa (Qv 3) (Qd (Qn 17))]
def f109_c6 : MC := .reg false f109_r6
def f109_r7 : List MO := [Qa (Qv 18) (Qf 1 false (Qn 1)),Qa (Qv 19) (MOp.nck (Qn 18)),Qa (Qv 20) (Qg 5 (Qn 19)),Qa (Qv 21) (Qf 1 false (Qn 20)),Qa (Qv 22) (Qd (Qn 3)),Qa (Qv 23) (Qj 2 (Qn 21) (Qn 22)),Qa (Qv 24) (Qf 2 true (Qn 23)),Qa (Qv 4) (MOp.alloc [(Qr Qu 0),(Qr Qu 0)]),Qa none (Ql 2 (Qn 4) (Qn 24))]
def f109_c7 : MC := .reg false f109_r7
def f109_r8 : List MO := [Qa (Qv 25) (MOp.cld 1 false (Qn 1)),Qa (Qv 26) (MOp.cld 1 false (Qn 1)),Qa (Qv 27) (MOp.nck (Qn 26)),Qa (Qv 28) (Qg 5 (Qn 27)),Qa (Qv 29) (MOp.cld 1 false (Qn 28)),Qa (Qv 30) (Qd (Qn 3)),Qa (Qv 31) (MOp.slcR 2 (Qn 29) none (Qv (Qn 30))),Qa (Qv 32) (MOp.nck (Qn 25)),Qa (Qv 33) (Qg 5 (Qn 32)),Qa none (Ql 1 (Qn 33) (Qn 31))]
def f109_c8 : MC := .reg true f109_r8
def f109_r9 : List MO := [Qa (Qv 34) (MOp.cld 1 false (Qn 1)),Qa (Qv 35) (MOp.nck (Qn 34)),Qa (Qv 36) (Qg 4 (Qn 35)),Qa (Qv 37) (MOp.cld 1 false (Qn 36)),Qa (Qv 38) (MOp.cld 2 true (Qn 4)),Qa (Qv 39) (MOp.lkp false (Qp (Qq (Qs false))) true [Qt,Qt] (Qn 37) (Qn 38))]
def f109_c9 : MC := .reg true f109_r9
def f109_c10 : MC := (MC.exit 1)
def f109_c11 : MC := MC.skip
def f109_c12 : MC := .cond (Qn 39) f109_c10 f109_c11
def f109_c13 : MC := .seq f109_c9 f109_c12
def f109_r14 : List MO := [Qa (Qv 40) (MOp.cld 1 false (Qn 1)),Qa (Qv 41) (MOp.nck (Qn 40)),Qa (Qv 42) (Qg 4 (Qn 41)),Qa (Qv 43) (MOp.cld 1 false (Qn 42)),Qa (Qv 44) (MOp.cld 2 true (Qn 4)),Qa none (MOp.mupd true [Qt,Qt] (Qn 43) (Qn 44) (Qo (Qp (Qq (Qs true)))))]
def f109_c14 : MC := .reg true f109_r14
def f109_r15 : List MO := [Qa (Qv 45) (MOp.cld 1 false (Qn 1)),Qa (Qv 46) (MOp.nck (Qn 45)),Qa (Qv 47) (Qg 0 (Qn 46)),Qa (Qv 48) (MOp.cld 4 true (Qn 47)),Qa (Qv 49) (MOp.cld 2 true (Qn 4)),Qc (Qv 50) (Qh 110 [(Qn 48),(Qn 49)]),Qa (Qv 5) (Qd (Qn 50))]
def f109_c15 : MC := .reg true f109_r15
def f109_r16 : List MO := [Qa (Qv 51) (Qd (Qn 0)),Qa (Qv 52) (Qf 2 true (Qn 4)),Qa (Qv 53) (Qd (Qn 5)),Qa (Qv 54) (MOp.callv (Qn 51) [(Qn 52),(Qn 53)]),Qa (Qv 55) (MOp.not (Qn 54)),Qa (Qv 56) (Qd (Qn 55)),Qb 56 false (Qv 57),Qa (Qv 57) (Qd (Qn 5)),Qb 56 false (Qv 58),Qa (Qv 58) (Qf 1 false (Qo (Qp (Qq (D.raw (Go.Value.pointer (Qv (Go.Addr.mk 0 0 none)))))))),Qb 56 false (Qv 59),Qa (Qv 59) (Qh 111 [(Qn 57),(Qn 58)]),Qa (Qv 60) (Qm (Qn 56) (Qo (Qp (Qq (Qs true)))) (Qn 59))]
def f109_c16 : MC := .reg false f109_r16
def f109_c17 : MC := (MC.exit 0)
def f109_c18 : MC := MC.skip
def f109_c19 : MC := .cond (Qn 60) f109_c17 f109_c18
def f109_c20 : MC := .seq f109_c16 f109_c19
def f109_r21 : List MO := [Qa (Qv 61) (MOp.cld 1 false (Qn 1)),Qa (Qv 62) (MOp.cld 1 false (Qn 1)),Qa (Qv 63) (MOp.nck (Qn 62)),Qa (Qv 64) (Qg 0 (Qn 63)),Qa (Qv 65) (MOp.cld 4 true (Qn 64)),Qa (Qv 66) (MOp.cld 2 true (Qn 4)),Qa (Qv 67) (Qh 113 [(Qn 65),(Qn 66)]),Qc (Qv 68) (Qh 112 [(Qn 61),(Qn 67)])]
def f109_c21 : MC := .reg true f109_r21
def f109_c22 : MC := .seq f109_c20 f109_c21
def f109_c23 : MC := .seq f109_c15 f109_c22
def f109_c24 : MC := .seq f109_c14 f109_c23
def f109_c25 : MC := .seq f109_c13 f109_c24
def f109_c26 : MC := .seq f109_c8 f109_c25
def f109_c27 : MC := .seq f109_c7 f109_c26
def f109_c28 : MC := .seq f109_c6 f109_c27
def f109_c29 : MC := .blk 1 f109_c28
def f109_c30 : MC := .seq f109_c5 f109_c29
def f109_c31 : MC := .loop f109_c30
def f109_c32 : MC := .blk 0 f109_c31
def f109_c33 : MC := .seq f109_c0 f109_c32
def f109_c34 : MC := .scope f109_c33
noncomputable def f109_code : Code := (f109.body).getD .skip
theorem f109_body : f109.body = Qv f109_code := by kernel_rfl
theorem f109_tr : trC QP [2000] f109_code = Qv f109_c34 := by kernel_rfl
theorem f109_rs : rsOf QP f109.results.toList = Qv [] := by kernel_rfl
theorem f109_nt : f109.ntmps = 69 := by kernel_rfl
theorem f109_ok : callable QP 109 = true := by kernel_rfl
theorem f109_tri {gp : Heap} {args : List V} {pre : List Ch} {R : V -> List Ch -> Prop} (h : G ⟨QP,gp,pre.length,[],R,false⟩ [.code f109_c34,.fin] ⟨args ++ List.replicate (69 - args.length) .un,pre⟩) : Tri QP gp 109 args pre R :=
 tri_intro func109 f109_body f109_tr f109_rs (by rw [f109_nt]; exact h)
def f110_r0 : List MO := [Qa (Qv 2) (MOp.ibox (Qn 0)),Qa (Qv 3) (MOp.ibox (Qn 1)),Qa (Qv 4) (Qd (Qo (Qp (Qq D.nilI))))]
def f110_c0 : MC := .reg false f110_r0
def f110_r1 : List MO := [Qa (Qv 11) (Qg 0 (Qn 2)),Qa (Qv 12) (Qg 1 (Qn 11)),Qa (Qv 13) (MOp.ild 1 false (Qn 12)),Qa (Qv 14) (Qg 0 (Qn 3)),Qa (Qv 15) (MOp.ild 1 false (Qn 14)),Qa (Qv 16) (MOp.iadD 6 (Qn 13) (Qn 15)),Qa (Qv 17) (MOp.ild 6 true (Qn 16)),Qa (Qv 18) (Qg 2 (Qn 2)),Qa (Qv 19) (Qg 1 (Qn 18)),Qa (Qv 20) (MOp.ild 1 false (Qn 19)),Qa (Qv 21) (Qg 1 (Qn 3)),Qa (Qv 22) (MOp.ild 1 false (Qn 21)),Qa (Qv 23) (MOp.iadD 6 (Qn 20) (Qn 22)),Qa (Qv 24) (MOp.ild 6 true (Qn 23)),Qa (Qv 5) (MOp.ibox (Qn 17)),Qa (Qv 6) (MOp.ibox (Qn 24)),Qa none (MOp.holes [(5,6),(6,6)])]
def f110_c1 : MC := .regv f110_r1
def f110_r2 : List MO := [Qa (Qv 26) (Qg 0 (Qn 2)),Qa (Qv 27) (Qf 2 true (Qn 26)),Qa (Qv 28) (Qg 0 (Qn 3)),Qa (Qv 29) (Qf 1 false (Qn 28)),Qa (Qv 30) (Qh 20 [(Qn 27),(Qn 29)]),Qa (Qv 25) (Qd (Qn 30)),Qa (Qv 31) (Qi (Qn 25) 0),Qa (Qv 32) (Qi (Qn 25) 1),Qa (Qv 7) (Qd (Qn 31)),Qa (Qv 8) (Qd (Qn 32))]
def f110_c2 : MC := .reg false f110_r2
def f110_r3 : List MO := [Qa (Qv 34) (Qg 2 (Qn 2)),Qa (Qv 35) (Qf 2 true (Qn 34)),Qa (Qv 36) (Qg 1 (Qn 3)),Qa (Qv 37) (Qf 1 false (Qn 36)),Qa (Qv 38) (Qh 20 [(Qn 35),(Qn 37)]),Qa (Qv 33) (Qd (Qn 38)),Qa (Qv 39) (Qi (Qn 33) 0),Qa (Qv 40) (Qi (Qn 33) 1),Qa (Qv 9) (Qd (Qn 39)),Qa (Qv 10) (Qd (Qn 40))]
def f110_c3 : MC := .reg false f110_r3
def f110_r4 : List MO := [Qa (Qv 41) (Qg 0 (Qn 5)),Qa (Qv 42) (Qf 1 false (Qn 41)),Qa (Qv 43) (Qg 0 (Qn 6)),Qa (Qv 44) (Qf 1 false (Qn 43)),Qa (Qv 45) (Qe Qt Go.BinOp.neq (Qn 42) (Qn 44)),Qa (Qv 46) (Qd (Qn 45)),Qb 46 false (Qv 47),Qa (Qv 47) (Qg 1 (Qn 5)),Qb 46 false (Qv 48),Qa (Qv 48) (Qf 3 true (Qn 47)),Qb 46 false (Qv 49),Qa (Qv 49) (Qg 1 (Qn 6)),Qb 46 false (Qv 50),Qa (Qv 50) (Qf 3 true (Qn 49)),Qb 46 false (Qv 51),Qa (Qv 51) (MOp.eqs true [Qt,Qt,Leaf.s] (Qn 48) (Qn 50)),Qa (Qv 52) (Qm (Qn 46) (Qo (Qp (Qq (Qs true)))) (Qn 51)),Qa (Qv 53) (Qd (Qn 52)),Qb 53 false (Qv 54),Qa (Qv 54) (Qd (Qn 7)),Qb 53 false (Qv 55),Qa (Qv 55) (Qd (Qn 9)),Qb 53 false (Qv 56),Qa (Qv 56) (Qh 71 [(Qn 54),(Qn 55)]),Qb 53 false (Qv 57),Qa (Qv 57) (MOp.not (Qn 56)),Qa (Qv 58) (Qm (Qn 53) (Qo (Qp (Qq (Qs true)))) (Qn 57)),Qa (Qv 59) (Qd (Qn 58)),Qb 59 false (Qv 60),Qa (Qv 60) (Qg 5 (Qn 5)),Qb 59 false (Qv 61),Qa (Qv 61) (Qf 1 false (Qn 60)),Qb 59 false (Qv 62),Qa (Qv 62) (Qk Qt (Qn 61)),Qb 59 false (Qv 63),Qa (Qv 63) (Qg 5 (Qn 6)),Qb 59 false (Qv 64),Qa (Qv 64) (Qf 1 false (Qn 63)),Qb 59 false (Qv 65),Qa (Qv 65) (Qk Qt (Qn 64)),Qb 59 false (Qv 66),Qa (Qv 66) (Qe Qt Go.BinOp.neq (Qn 62) (Qn 65)),Qa (Qv 67) (Qm (Qn 59) (Qo (Qp (Qq (Qs true)))) (Qn 66))]
def f110_c4 : MC := .reg false f110_r4
def f110_r5 : List MO := [Qa (Qv 68) (Qf 1 false (Qo (Qp (Qq (D.raw (Go.Value.pointer (Qv (Go.Addr.mk 0 0 none)))))))),Qa (Qv 4) (Qd (Qn 68))]
def f110_c5 : MC := .reg false f110_r5
def f110_c6 : MC := MC.ret
def f110_c7 : MC := .seq f110_c5 f110_c6
def f110_c8 : MC := MC.skip
def f110_c9 : MC := .cond (Qn 67) f110_c7 f110_c8
def f110_c10 : MC := .seq f110_c4 f110_c9
def f110_r11 : List MO := [Qa (Qv 4) (Qd (Qo (Qp (Qq D.nilI))))]
def f110_c11 : MC := .reg false f110_r11
def f110_c12 : MC := MC.ret
def f110_c13 : MC := .seq f110_c11 f110_c12
def f110_c14 : MC := .seq f110_c10 f110_c13
def f110_c15 : MC := .seq f110_c3 f110_c14
def f110_c16 : MC := .seq f110_c2 f110_c15
def f110_c17 : MC := .seq f110_c1 f110_c16
def f110_c18 : MC := .seq f110_c0 f110_c17
noncomputable def f110_code : Code := (f110.body).getD .skip
theorem f110_body : f110.body = Qv f110_code := by kernel_rfl
theorem f110_tr : trC QP [2,3,1002,1003] f110_code = Qv f110_c18 := by kernel_rfl
theorem f110_rs : rsOf QP f110.results.toList = Qv [(RV.t 4)] := by kernel_rfl
theorem f110_nt : f110.ntmps = 69 := by kernel_rfl
theorem f110_ok : callable QP 110 = true := by kernel_rfl
theorem f110_in {gp : Heap} {args : List V} {res : V} (h : G ⟨QP,gp,0,[(RV.t 4)],fun r c => r = res /\ c = [],false⟩ [.code f110_c18,.fin] ⟨args ++ List.replicate (69 - args.length) .un,[]⟩) : Does QP gp 110 args res :=
 does_intro f110_ok func110 f110_body f110_tr f110_rs (by rw [f110_nt]; exact h)
def f112_r0 : List MO := [Qa (Qv 2) (MOp.box (Qn 0))]
def f112_c0 : MC := .reg false f112_r0
def f112_r1 : List MO := [Qa (Qv 6) (Qd (Qn 1)),Qa (Qv 7) (Qh 138 [(Qn 6)])]
def f112_c1 : MC := .reg false f112_r1
def f112_r2 : List MO := [Qa (Qv 5) (MOp.alloc [(Qr Qu 0),(Qr Qu 0)]),Qa none (Ql 2 (Qn 5) (Qn 9))]
def f112_c2 : MC := .reg false f112_r2
def f112_r3 : List MO := [Qa (Qv 10) (MOp.cld 1 false (Qn 2)),Qa (Qv 11) (MOp.cld 1 false (Qn 2)),Qa (Qv 12) (MOp.nck (Qn 11)),Qa (Qv 13) (Qg 5 (Qn 12)),Qa (Qv 14) (MOp.cld 1 false (Qn 13)),Qa (Qv 15) (MOp.cld 2 true (Qn 5)),Qa (Qv 16) (MOp.bslice 2 [(Qr Qu 0),(Qr Qu 0)] 1 [(0,(Qn 15))]),Qa (Qv 17) (MOp.app 95 2 16 (Qn 14) (Qn 16)),Qa (Qv 18) (MOp.nck (Qn 10)),Qa (Qv 19) (Qg 5 (Qn 18)),Qa none (Ql 1 (Qn 19) (Qn 17))]
def f112_c3 : MC := .reg true f112_r3
def f112_c4 : MC := .blk 1 f112_c3
def f112_c5 : MC := .rf (Qn 7) [8,9] f112_c2 f112_c4
def f112_c6 : MC := .blk 0 f112_c5
def f112_c7 : MC := .seq f112_c1 f112_c6
def f112_c8 : MC := .seq f112_c0 f112_c7
noncomputable def f112_code : Code := (f112.body).getD .skip
theorem f112_body : f112.body = Qv f112_code := by kernel_rfl
theorem f112_tr : trC QP [2000] f112_code = Qv f112_c8 := by kernel_rfl
theorem f112_rs : rsOf QP f112.results.toList = Qv [] := by kernel_rfl
theorem f112_nt : f112.ntmps = 20 := by kernel_rfl
theorem f112_ok : callable QP 112 = true := by kernel_rfl
theorem f112_tri {gp : Heap} {args : List V} {pre : List Ch} {R : V -> List Ch -> Prop} (h : G ⟨QP,gp,pre.length,[],R,false⟩ [.code f112_c8,.fin] ⟨args ++ List.replicate (20 - args.length) .un,pre⟩) : Tri QP gp 112 args pre R :=
 tri_intro func112 f112_body f112_tr f112_rs (by rw [f112_nt]; exact h)
def f113_r0 : List MO := [Qa (Qv 2) (MOp.ibox (Qn 0)),Qa (Qv 3) (MOp.ibox (Qn 1)),Qa (Qv 4) (Qd (Qo (Qp A.nil)))]
def f113_c0 : MC := .reg false f113_r0
def f113_r1 : List MO := [Qa (Qv 12) (Qg 0 (Qn 2)),Qa (Qv 13) (Qf 2 true (Qn 12)),Qa (Qv 14) (Qg 0 (Qn 3)),Qa (Qv 15) (Qf 1 false (Qn 14)),Qa (Qv 16) (Qh 18 [(Qn 13),(Qn 15)]),Qa (Qv 11) (Qd (Qn 16)),Qa (Qv 17) (Qi (Qn 11) 0),Qa (Qv 18) (Qi (Qn 11) 1),Qa (Qv 5) (Qd (Qn 17)),Qa (Qv 6) (Qd (Qn 18))]
def f113_c1 : MC := .reg false f113_r1
def f113_r2 : List MO := [Qa (Qv 20) (Qg 2 (Qn 2)),Qa (Qv 21) (Qf 2 true (Qn 20)),Qa (Qv 22) (Qg 1 (Qn 3)),Qa (Qv 23) (Qf 1 false (Qn 22)),Qa (Qv 24) (Qh 18 [(Qn 21),(Qn 23)]),Qa (Qv 19) (Qd (Qn 24)),Qa (Qv 25) (Qi (Qn 19) 0),Qa (Qv 26) (Qi (Qn 19) 1),Qa (Qv 7) (Qd (Qn 25)),Qa (Qv 8) (Qd (Qn 26))]
def f113_c2 : MC := .reg false f113_r2
def f113_r3 : List MO := [Qa (Qv 9) (Qd (Qo (Qp A.nil)))]
def f113_c3 : MC := .reg false f113_r3
def f113_r4 : List MO := [Qa (Qv 27) (Qd (Qn 5)),Qa (Qv 28) (Qk Qt (Qn 27)),Qa (Qv 29) (Qd (Qo (Qp (Qq (Qr Qu 0)))))]
def f113_c4 : MC := .reg false f113_r4
def f113_r5 : List MO := [Qa (Qv 30) (Qe Qt Go.BinOp.lss (Qn 29) (Qn 28))]
def f113_c5 : MC := .reg false f113_r5
def f113_c6 : MC := MC.skip
def f113_c7 : MC := (MC.exit 0)
def f113_c8 : MC := .cond (Qn 30) f113_c6 f113_c7
def f113_r9 : List MO := [Qa (Qv 31) (Qd (Qn 29)),Qa (Qv 10) (Qd (Qn 31))]
def f113_c9 : MC := .reg false f113_r9
def f113_r10 : List MO := [Qa (Qv 32) (Qd (Qn 9)),Qa (Qv 33) (Qd (Qn 5)),Qa (Qv 34) (Qd (Qn 10)),Qa (Qv 35) (Qj 1 (Qn 33) (Qn 34)),Qa (Qv 36) (Qf 1 false (Qn 35)),Qa (Qv 37) (Qd (Qn 7)),Qa (Qv 38) (Qd (Qn 10)),Qa (Qv 39) (Qj 1 (Qn 37) (Qn 38)),Qa (Qv 40) (Qf 1 false (Qn 39)),Qa (Qv 41) (MOp.build [(Qr Qu 0),(Qr Qu 0)] [(0,(1,(Qn 36))),(1,(1,(Qn 40)))]),Qa (Qv 42) (MOp.bslice 2 [(Qr Qu 0),(Qr Qu 0)] 1 [(0,(Qn 41))]),Qa (Qv 43) (MOp.app 95 2 16 (Qn 32) (Qn 42)),Qa (Qv 9) (Qd (Qn 43))]
def f113_c10 : MC := .reg true f113_r10
def f113_c11 : MC := .seq f113_c9 f113_c10
def f113_c12 : MC := .blk 1 f113_c11
def f113_r13 : List MO := [Qa (Qv 44) (Qe Qt Go.BinOp.add (Qn 29) (Qo (Qp (Qq (Qr Qu 1))))),Qa (Qv 29) (Qd (Qn 44))]
def f113_c13 : MC := .reg false f113_r13
def f113_c14 : MC := .seq f113_c12 f113_c13
def f113_c15 : MC := .seq f113_c8 f113_c14
def f113_c16 : MC := .seq f113_c5 f113_c15
def f113_c17 : MC := .loop f113_c16
def f113_c18 : MC := .blk 0 f113_c17
def f113_c19 : MC := .seq f113_c4 f113_c18
def f113_r20 : List MO := [Qa (Qv 45) (Qd (Qn 9)),Qa (Qv 4) (Qd (Qn 45))]
def f113_c20 : MC := .reg false f113_r20
def f113_c21 : MC := MC.ret
def f113_c22 : MC := .seq f113_c20 f113_c21
def f113_c23 : MC := .seq f113_c19 f113_c22
def f113_c24 : MC := .seq f113_c3 f113_c23
def f113_c25 : MC := .seq f113_c2 f113_c24
def f113_c26 : MC := .seq f113_c1 f113_c25
def f113_c27 : MC := .seq f113_c0 f113_c26
noncomputable def f113_code : Code := (f113.body).getD .skip
theorem f113_body : f113.body = Qv f113_code := by kernel_rfl
theorem f113_tr : trC QP [2,3] f113_code = Qv f113_c27 := by kernel_rfl
theorem f113_rs : rsOf QP f113.results.toList = Qv [(RV.t 4)] := by kernel_rfl
theorem f113_nt : f113.ntmps = 46 := by kernel_rfl
theorem f113_ok : callable QP 113 = true := by kernel_rfl
theorem f113_in {gp : Heap} {args : List V} {res : V} (h : G ⟨QP,gp,0,[(RV.t 4)],fun r c => r = res /\ c = [],false⟩ [.code f113_c27,.fin] ⟨args ++ List.replicate (46 - args.length) .un,[]⟩) : Does QP gp 113 args res :=
 does_intro f113_ok func113 f113_body f113_tr f113_rs (by rw [f113_nt]; exact h)
def f114_r0 : List MO := [Qa (Qv 3) (MOp.ibox (Qn 1)),Qa (Qv 4) (Qd (Qo (Qp (Qq (Qs false)))))]
def f114_c0 : MC := .reg false f114_r0
def f114_r1 : List MO := [Qa (Qv 5) (Qd (Qo (Qp (Qq (Qr Qu 0)))))]
def f114_c1 : MC := .reg false f114_r1
def f114_r2 : List MO := [Qa (Qv 6) (Qd (Qn 5)),Qa (Qv 7) (Qd (Qn 0)),Qa (Qv 8) (Qk Qt (Qn 7)),Qa (Qv 9) (Qe Qt Go.BinOp.lss (Qn 6) (Qn 8))]
def f114_c2 : MC := .reg false f114_r2
def f114_c3 : MC := MC.skip
def f114_c4 : MC := (MC.exit 0)
def f114_c5 : MC := .cond (Qn 9) f114_c3 f114_c4
def f114_c6 : MC := .seq f114_c2 f114_c5
def f114_r7 : List MO := [Qa (Qv 12) (Qd (Qn 0)),Qa (Qv 13) (Qd (Qn 5)),Qa (Qv 14) (Qj 2 (Qn 12) (Qn 13)),Qa (Qv 15) (Qf 2 true (Qn 14)),Qa (Qv 16) (Qf 2 true (Qn 3)),Qa (Qv 17) (MOp.eqs false [Qt,Qt] (Qn 15) (Qn 16))]
def f114_c7 : MC := .reg true f114_r7
def f114_r8 : List MO := [Qa (Qv 4) (Qd (Qo (Qp (Qq (Qs true)))))]
def f114_c8 : MC := .reg false f114_r8
def f114_c9 : MC := MC.ret
def f114_c10 : MC := .seq f114_c8 f114_c9
def f114_c11 : MC := MC.skip
def f114_c12 : MC := .cond (Qn 17) f114_c10 f114_c11
def f114_c13 : MC := .seq f114_c7 f114_c12
def f114_c14 : MC := .blk 1 f114_c13
def f114_r15 : List MO := [Qa (Qv 10) (Qd (Qn 5)),Qa (Qv 11) (Qe Qt Go.BinOp.add (Qn 10) (Qo (Qp (Qq (Qr Qu 1))))),Qa (Qv 5) (Qd (Qn 11))]
def f114_c15 : MC := .reg false f114_r15
def f114_c16 : MC := .seq f114_c14 f114_c15
def f114_c17 : MC := .seq f114_c6 f114_c16
def f114_c18 : MC := .loop f114_c17
def f114_c19 : MC := .blk 0 f114_c18
def f114_c20 : MC := .seq f114_c1 f114_c19
def f114_r21 : List MO := [Qa (Qv 4) (Qd (Qo (Qp (Qq (Qs false)))))]
def f114_c21 : MC := .reg false f114_r21
def f114_c22 : MC := MC.ret
def f114_c23 : MC := .seq f114_c21 f114_c22
def f114_c24 : MC := .seq f114_c20 f114_c23
def f114_c25 : MC := .seq f114_c0 f114_c24
noncomputable def f114_code : Code := (f114.body).getD .skip
theorem f114_body : f114.body = Qv f114_code := by kernel_rfl
theorem f114_tr : trC QP [3] f114_code = Qv f114_c25 := by kernel_rfl
theorem f114_rs : rsOf QP f114.results.toList = Qv [(RV.t 4)] := by kernel_rfl
theorem f114_nt : f114.ntmps = 18 := by kernel_rfl
theorem f114_ok : callable QP 114 = true := by kernel_rfl
theorem f114_in {gp : Heap} {args : List V} {res : V} (h : G ⟨QP,gp,0,[(RV.t 4)],fun r c => r = res /\ c = [],false⟩ [.code f114_c25,.fin] ⟨args ++ List.replicate (18 - args.length) .un,[]⟩) : Does QP gp 114 args res :=
 does_intro f114_ok func114 f114_body f114_tr f114_rs (by rw [f114_nt]; exact h)
def f138_r0 : List MO := [Qa (Qv 1) (MOp.ibox (Qn 0)),Qa (Qv 2) (Qd (Qo (Qp (Qq D.nilF))))]
def f138_c0 : MC := .reg false f138_r0
def f138_r1 : List MO := [Qa (Qv 3) (MOp.mkF (Go.Fn.func 156) [(Qn 1)]),Qa (Qv 2) (Qd (Qn 3))]
def f138_c1 : MC := .reg false f138_r1
def f138_c2 : MC := MC.ret
def f138_c3 : MC := .seq f138_c1 f138_c2
def f138_c4 : MC := .seq f138_c0 f138_c3
noncomputable def f138_code : Code := (f138.body).getD .skip
theorem f138_body : f138.body = Qv f138_code := by kernel_rfl
theorem f138_tr : trC QP [1] f138_code = Qv f138_c4 := by kernel_rfl
theorem f138_rs : rsOf QP f138.results.toList = Qv [(RV.t 2)] := by kernel_rfl
theorem f138_nt : f138.ntmps = 4 := by kernel_rfl
theorem f138_ok : callable QP 138 = true := by kernel_rfl
theorem f138_in {gp : Heap} {args : List V} {res : V} (h : G ⟨QP,gp,0,[(RV.t 2)],fun r c => r = res /\ c = [],false⟩ [.code f138_c4,.fin] ⟨args ++ List.replicate (4 - args.length) .un,[]⟩) : Does QP gp 138 args res :=
 does_intro f138_ok func138 f138_body f138_tr f138_rs (by rw [f138_nt]; exact h)
def f156_r0 : List MO := [Qa (Qv 4) (Qf 1 false (Qn 1)),Qa (Qv 5) (Qk Qt (Qn 4)),Qa (Qv 6) (Qe Qt Go.BinOp.sub (Qn 5) (Qo (Qp (Qq (Qr Qu 1))))),Qa (Qv 3) (Qd (Qn 6))]
def f156_c0 : MC := .reg false f156_r0
def f156_r1 : List MO := [Qa (Qv 7) (Qd (Qn 3)),Qa (Qv 8) (Qe Qt Go.BinOp.geq (Qn 7) (Qo (Qp (Qq (Qr Qu 0)))))]
def f156_c1 : MC := .reg false f156_r1
def f156_c2 : MC := MC.skip
def f156_c3 : MC := (MC.exit 0)
def f156_c4 : MC := .cond (Qn 8) f156_c2 f156_c3
def f156_c5 : MC := .seq f156_c1 f156_c4
def f156_r6 : List MO := [Qa (Qv 11) (Qd (Qn 0)),Qa (Qv 12) (Qd (Qn 3)),Qa (Qv 13) (Qf 1 false (Qn 1)),Qa (Qv 14) (Qd (Qn 3)),Qa (Qv 15) (Qj 2 (Qn 13) (Qn 14)),Qa (Qv 16) (Qf 2 true (Qn 15)),Qa (Qv 17) (MOp.callv (Qn 11) [(Qn 12),(Qn 16)]),Qa (Qv 18) (MOp.not (Qn 17))]
def f156_c6 : MC := .reg false f156_r6
def f156_c7 : MC := MC.ret
def f156_c8 : MC := MC.skip
def f156_c9 : MC := .cond (Qn 18) f156_c7 f156_c8
def f156_c10 : MC := .seq f156_c6 f156_c9
def f156_c11 : MC := .blk 1 f156_c10
def f156_r12 : List MO := [Qa (Qv 9) (Qd (Qn 3)),Qa (Qv 10) (Qe Qt Go.BinOp.sub (Qn 9) (Qo (Qp (Qq (Qr Qu 1))))),Qa (Qv 3) (Qd (Qn 10))]
def f156_c12 : MC := .reg false f156_r12
def f156_c13 : MC := .seq f156_c11 f156_c12
def f156_c14 : MC := .seq f156_c5 f156_c13
def f156_c15 : MC := .loop f156_c14
def f156_c16 : MC := .blk 0 f156_c15
def f156_c17 : MC := .seq f156_c0 f156_c16
noncomputable def f156_code : Code := (f156.body).getD .skip
theorem f156_body : f156.body = Qv f156_code := by kernel_rfl
theorem f156_tr : trC QP [] f156_code = Qv f156_c17 := by kernel_rfl
theorem f156_rs : rsOf QP f156.results.toList = Qv [] := by kernel_rfl
theorem f156_nt : f156.ntmps = 19 := by kernel_rfl
theorem f156_ok : callable QP 156 = true := by kernel_rfl
theorem f156_tri {gp : Heap} {args : List V} {pre : List Ch} {R : V -> List Ch -> Prop} (h : G ⟨QP,gp,pre.length,[],R,false⟩ [.code f156_c17,.fin] ⟨args ++ List.replicate (19 - args.length) .un,pre⟩) : Tri QP gp 156 args pre R :=
 tri_intro func156 f156_body f156_tr f156_rs (by rw [f156_nt]; exact h)
end Go.Fw.L07
