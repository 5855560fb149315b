/- Small codes. -/
import Derived.Test.YtfonfncokpdaaaaGreatDoorFd
import Derived.Test.YtfonfncokpdaaaaGreatDoorProg
set_option linter.all false
namespace Go.Fw.L07
open Go Go.Fw
open Go.Fw.MO renaming op → Qa, chk → Qb, opx → Qc
open Go.Fw.MOp renaming mv → Qd, bin → Qe, load → Qf, fad → Qg, call → Qh, ext → Qi, iad → Qj, len → Qk, store → Ql, pick → Qm
open Go.Fw.Opd renaming t → Qn, c → Qo
open Go.Fw.V renaming one → Qp
open Go.Fw.A renaming d → Qq
open Go.Fw.D renaming int → Qr, bool → Qs
open Go.Fw.Leaf renaming i → Qt
open Go.IntKind renaming i64 → Qu
open Option renaming some → Qv
def f19_r0 : List MO := [
(Qa (Qv 2) (MOp.ibox (Qn 0))),
(Qa (Qv 4) (Qd (Qo (Qp (Qq (Qr Qu 0)))))),
(Qa (Qv 5) (Qd (Qo (Qp (Qq (Qs false))))))]
def f19_c0 : MC := .reg false f19_r0
def f19_r1 : List MO := [
(Qa (Qv 14) (Qf 2 true (Qn 2))),
(Qa (Qv 15) (Qh 33 [(Qn 14)])),
(Qa (Qv 13) (Qd (Qn 15))),
(Qa (Qv 16) (Qi (Qn 13) 0)),
(Qa (Qv 17) (Qi (Qn 13) 1)),
(Qa (Qv 6) (Qd (Qn 16))),
(Qa (Qv 7) (Qd (Qn 17)))]
def f19_c1 : MC := .reg false f19_r1
def f19_r2 : List MO := [
(Qa (Qv 18) (Qd (Qn 7))),
(Qa (Qv 19) (Qe Qt Go.BinOp.neq (Qn 18) (Qo (Qp (Qq (Qr Qu 0))))))]
def f19_c2 : MC := .reg false f19_r2
def f19_r3 : List MO := [
(Qa (Qv 4) (Qd (Qo (Qp (Qq (Qr Qu 0)))))),
(Qa (Qv 5) (Qd (Qo (Qp (Qq (Qs false))))))]
def f19_c3 : MC := .reg false f19_r3
def f19_c4 : MC := MC.ret
def f19_c5 : MC := .seq f19_c3 f19_c4
def f19_c6 : MC := MC.skip
def f19_c7 : MC := .cond (Qn 19) f19_c5 f19_c6
def f19_c8 : MC := .seq f19_c2 f19_c7
def f19_c9 : MC := .seq f19_c1 f19_c8
def f19_r10 : List MO := [
(Qa (Qv 20) (Qg 0 (Qn 2))),
(Qa (Qv 21) (Qf 1 false (Qn 20))),
(Qa (Qv 8) (Qd (Qn 21)))]
def f19_c10 : MC := .reg false f19_r10
def f19_r11 : List MO := [
(Qa (Qv 22) (Qd (Qn 1))),
(Qa (Qv 23) (Qk Qt (Qn 22))),
(Qa (Qv 24) (Qd (Qo (Qp (Qq (Qr Qu 0))))))]
def f19_c11 : MC := .reg false f19_r11
def f19_r12 : List MO := [
(Qa (Qv 25) (Qe Qt Go.BinOp.lss (Qn 24) (Qn 23)))]
def f19_c12 : MC := .reg false f19_r12
def f19_c13 : MC := MC.skip
def f19_c14 : MC := (MC.exit 0)
def f19_c15 : MC := .cond (Qn 25) f19_c13 f19_c14
def f19_r16 : List MO := [
(Qa (Qv 26) (Qj 1 (Qn 22) (Qn 24))),
(Qa (Qv 27) (Qf 1 false (Qn 26))),
(Qa (Qv 10) (Qd (Qn 27)))]
def f19_c16 : MC := .reg false f19_r16
def f19_r17 : List MO := [
(Qa (Qv 29) (Qf 2 true (Qn 2))),
(Qa (Qv 30) (Qd (Qn 8))),
(Qa (Qv 31) (Qh 34 [(Qn 29), (Qn 30)])),
(Qa (Qv 28) (Qd (Qn 31))),
(Qa (Qv 32) (Qi (Qn 28) 0)),
(Qa (Qv 33) (Qi (Qn 28) 1)),
(Qa (Qv 11) (Qd (Qn 32))),
(Qa (Qv 12) (Qd (Qn 33)))]
def f19_c17 : MC := .reg false f19_r17
def f19_r18 : List MO := [
(Qa (Qv 34) (Qd (Qn 10))),
(Qa (Qv 35) (Qe Qt Go.BinOp.lss (Qn 34) (Qo (Qp (Qq (Qr Qu 0)))))),
(Qa (Qv 36) (Qd (Qn 35))),
(Qb 36 false (Qv 37)),
(Qa (Qv 37) (Qd (Qn 10))),
(Qb 36 false (Qv 38)),
(Qa (Qv 38) (Qd (Qn 11))),
(Qb 36 false (Qv 39)),
(Qa (Qv 39) (Qk Qt (Qn 38))),
(Qb 36 false (Qv 40)),
(Qa (Qv 40) (Qe Qt Go.BinOp.geq (Qn 37) (Qn 39))),
(Qa (Qv 41) (Qm (Qn 36) (Qo (Qp (Qq (Qs true)))) (Qn 40)))]
def f19_c18 : MC := .reg false f19_r18
def f19_r19 : List MO := [
(Qa (Qv 4) (Qd (Qo (Qp (Qq (Qr Qu 0)))))),
(Qa (Qv 5) (Qd (Qo (Qp (Qq (Qs false))))))]
def f19_c19 : MC := .reg false f19_r19
def f19_c20 : MC := MC.ret
def f19_c21 : MC := .seq f19_c19 f19_c20
def f19_c22 : MC := MC.skip
def f19_c23 : MC := .cond (Qn 41) f19_c21 f19_c22
def f19_c24 : MC := .seq f19_c18 f19_c23
def f19_r25 : List MO := [
(Qa (Qv 42) (Qd (Qn 11))),
(Qa (Qv 43) (Qd (Qn 10))),
(Qa (Qv 44) (Qj 1 (Qn 42) (Qn 43))),
(Qa (Qv 45) (Qf 1 false (Qn 44))),
(Qa (Qv 8) (Qd (Qn 45)))]
def f19_c25 : MC := .reg false f19_r25
def f19_c26 : MC := .seq f19_c24 f19_c25
def f19_c27 : MC := .seq f19_c17 f19_c26
def f19_c28 : MC := .seq f19_c16 f19_c27
def f19_c29 : MC := .blk 1 f19_c28
def f19_r30 : List MO := [
(Qa (Qv 46) (Qe Qt Go.BinOp.add (Qn 24) (Qo (Qp (Qq (Qr Qu 1)))))),
(Qa (Qv 24) (Qd (Qn 46)))]
def f19_c30 : MC := .reg false f19_r30
def f19_c31 : MC := .seq f19_c29 f19_c30
def f19_c32 : MC := .seq f19_c15 f19_c31
def f19_c33 : MC := .seq f19_c12 f19_c32
def f19_c34 : MC := .loop f19_c33
def f19_c35 : MC := .blk 0 f19_c34
def f19_c36 : MC := .seq f19_c11 f19_c35
def f19_r37 : List MO := [
(Qa (Qv 47) (Qd (Qn 8))),
(Qa (Qv 4) (Qd (Qn 47))),
(Qa (Qv 5) (Qd (Qo (Qp (Qq (Qs true))))))]
def f19_c37 : MC := .reg false f19_r37
def f19_c38 : MC := MC.ret
def f19_c39 : MC := .seq f19_c37 f19_c38
def f19_c40 : MC := .seq f19_c36 f19_c39
def f19_c41 : MC := .seq f19_c10 f19_c40
def f19_c42 : MC := .seq f19_c9 f19_c41
def f19_c43 : MC := .seq f19_c0 f19_c42
noncomputable def f19_code : Code := (Go.Proofs.Tryz.f19.body).getD .skip
theorem f19_body : Go.Proofs.Tryz.f19.body = Qv f19_code := by kernel_rfl
theorem f19_tr : trC Go.Proofs.Tryz.prog [2] f19_code = Qv f19_c43 := by kernel_rfl
theorem f19_rs : rsOf Go.Proofs.Tryz.prog Go.Proofs.Tryz.f19.results.toList = Qv [(RV.t 4), (RV.t 5)] := by kernel_rfl
theorem f19_nt : Go.Proofs.Tryz.f19.ntmps = 48 := by kernel_rfl
theorem f19_ok : callable Go.Proofs.Tryz.prog 19 = true := by kernel_rfl
theorem f19_in {gp : Heap} {args : List V} {res : V} (h : G ⟨Go.Proofs.Tryz.prog, gp, 0, [(RV.t 4), (RV.t 5)], fun r c => r = res ∧ c = [], false⟩ [.code f19_c43, .fin] ⟨args ++ List.replicate (48 - args.length) .un, []⟩) : Does Go.Proofs.Tryz.prog gp 19 args res :=
  does_intro f19_ok Go.Proofs.Tryz.func19 f19_body f19_tr f19_rs (by rw [f19_nt]; exact h)
theorem f19_tri {gp : Heap} {args : List V} {pre : List Ch} {R : V → List Ch → Prop} (h : G ⟨Go.Proofs.Tryz.prog, gp, pre.length, [(RV.t 4), (RV.t 5)], R, false⟩ [.code f19_c43, .fin] ⟨args ++ List.replicate (48 - args.length) .un, pre⟩) : Tri Go.Proofs.Tryz.prog gp 19 args pre R :=
  tri_intro Go.Proofs.Tryz.func19 f19_body f19_tr f19_rs (by rw [f19_nt]; exact h)
def f20_r0 : List MO := [
(Qa (Qv 1) (MOp.ibox (Qn 0))),
(Qa (Qv 2) (Qd (Qo (Qp A.nil)))),
(Qa (Qv 3) (Qd (Qo (Qp (Qq (Qr Qu 0))))))]
def f20_c0 : MC := .reg false f20_r0
def f20_r1 : List MO := [
(Qa (Qv 7) (Qf 2 true (Qn 1))),
(Qa (Qv 8) (Qh 33 [(Qn 7)])),
(Qa (Qv 6) (Qd (Qn 8))),
(Qa (Qv 9) (Qi (Qn 6) 0)),
(Qa (Qv 10) (Qi (Qn 6) 1)),
(Qa (Qv 4) (Qd (Qn 9))),
(Qa (Qv 5) (Qd (Qn 10)))]
def f20_c1 : MC := .reg false f20_r1
def f20_r2 : List MO := [
(Qa (Qv 11) (Qd (Qn 5))),
(Qa (Qv 12) (Qe Qt Go.BinOp.neq (Qn 11) (Qo (Qp (Qq (Qr Qu 0))))))]
def f20_c2 : MC := .reg false f20_r2
def f20_r3 : List MO := [
(Qa (Qv 13) (Qd (Qn 5))),
(Qa (Qv 2) (Qd (Qo (Qp A.nil)))),
(Qa (Qv 3) (Qd (Qn 13)))]
def f20_c3 : MC := .reg false f20_r3
def f20_c4 : MC := MC.ret
def f20_c5 : MC := .seq f20_c3 f20_c4
def f20_c6 : MC := MC.skip
def f20_c7 : MC := .cond (Qn 12) f20_c5 f20_c6
def f20_c8 : MC := .seq f20_c2 f20_c7
def f20_c9 : MC := .seq f20_c1 f20_c8
def f20_r10 : List MO := [
(Qa (Qv 14) (Qf 2 true (Qn 1))),
(Qa (Qv 15) (Qh 35 [(Qn 14)])),
(Qa (Qv 16) (Qh 36 [(Qn 15)])),
(Qa (Qv 2) (Qd (Qn 16))),
(Qa (Qv 3) (Qd (Qo (Qp (Qq (Qr Qu 0))))))]
def f20_c10 : MC := .reg false f20_r10
def f20_c11 : MC := MC.ret
def f20_c12 : MC := .seq f20_c10 f20_c11
def f20_c13 : MC := .seq f20_c9 f20_c12
def f20_c14 : MC := .seq f20_c0 f20_c13
noncomputable def f20_code : Code := (Go.Proofs.Tryz.f20.body).getD .skip
theorem f20_body : Go.Proofs.Tryz.f20.body = Qv f20_code := by kernel_rfl
theorem f20_tr : trC Go.Proofs.Tryz.prog [1] f20_code = Qv f20_c14 := by kernel_rfl
theorem f20_rs : rsOf Go.Proofs.Tryz.prog Go.Proofs.Tryz.f20.results.toList = Qv [(RV.t 2), (RV.t 3)] := by kernel_rfl
theorem f20_nt : Go.Proofs.Tryz.f20.ntmps = 17 := by kernel_rfl
theorem f20_ok : callable Go.Proofs.Tryz.prog 20 = true := by kernel_rfl
theorem f20_in {gp : Heap} {args : List V} {res : V} (h : G ⟨Go.Proofs.Tryz.prog, gp, 0, [(RV.t 2), (RV.t 3)], fun r c => r = res ∧ c = [], false⟩ [.code f20_c14, .fin] ⟨args ++ List.replicate (17 - args.length) .un, []⟩) : Does Go.Proofs.Tryz.prog gp 20 args res :=
  does_intro f20_ok Go.Proofs.Tryz.func20 f20_body f20_tr f20_rs (by rw [f20_nt]; exact h)
theorem f20_tri {gp : Heap} {args : List V} {pre : List Ch} {R : V → List Ch → Prop} (h : G ⟨Go.Proofs.Tryz.prog, gp, pre.length, [(RV.t 2), (RV.t 3)], R, false⟩ [.code f20_c14, .fin] ⟨args ++ List.replicate (17 - args.length) .un, pre⟩) : Tri Go.Proofs.Tryz.prog gp 20 args pre R :=
  tri_intro Go.Proofs.Tryz.func20 f20_body f20_tr f20_rs (by rw [f20_nt]; exact h)
def f35_r0 : List MO := [
(Qa (Qv 1) (MOp.ibox (Qn 0))),
(Qa (Qv 2) (Qd (Qo (Qp (Qq D.nilP)))))]
def f35_c0 : MC := .reg false f35_r0
def f35_r1 : List MO := [
(Qa (Qv 3) (Qf 2 true (Qn 1))),
(Qa (Qv 4) MOp.mkM),
(Qa (Qv 5) (MOp.build [(Qr Qu 0), (D.sl []), (D.raw (Go.Value.map none))] [(0, (2, (Qn 3))), (2, (1, (Qn 4)))])),
(Qa (Qv 6) (MOp.box (Qn 5))),
(Qa (Qv 2) (Qd (Qn 6)))]
def f35_c1 : MC := .reg false f35_r1
def f35_c2 : MC := MC.ret
def f35_c3 : MC := .seq f35_c1 f35_c2
def f35_c4 : MC := .seq f35_c0 f35_c3
noncomputable def f35_code : Code := (Go.Proofs.Tryz.f35.body).getD .skip
theorem f35_body : Go.Proofs.Tryz.f35.body = Qv f35_code := by kernel_rfl
theorem f35_tr : trC Go.Proofs.Tryz.prog [1] f35_code = Qv f35_c4 := by kernel_rfl
theorem f35_rs : rsOf Go.Proofs.Tryz.prog Go.Proofs.Tryz.f35.results.toList = Qv [(RV.t 2)] := by kernel_rfl
theorem f35_nt : Go.Proofs.Tryz.f35.ntmps = 7 := by kernel_rfl
theorem f35_ok : callable Go.Proofs.Tryz.prog 35 = true := by kernel_rfl
theorem f35_in {gp : Heap} {args : List V} {res : V} (h : G ⟨Go.Proofs.Tryz.prog, gp, 0, [(RV.t 2)], fun r c => r = res ∧ c = [], false⟩ [.code f35_c4, .fin] ⟨args ++ List.replicate (7 - args.length) .un, []⟩) : Does Go.Proofs.Tryz.prog gp 35 args res :=
  does_intro f35_ok Go.Proofs.Tryz.func35 f35_body f35_tr f35_rs (by rw [f35_nt]; exact h)
theorem f35_tri {gp : Heap} {args : List V} {pre : List Ch} {R : V → List Ch → Prop} (h : G ⟨Go.Proofs.Tryz.prog, gp, pre.length, [(RV.t 2)], R, false⟩ [.code f35_c4, .fin] ⟨args ++ List.replicate (7 - args.length) .un, pre⟩) : Tri Go.Proofs.Tryz.prog gp 35 args pre R :=
  tri_intro Go.Proofs.Tryz.func35 f35_body f35_tr f35_rs (by rw [f35_nt]; exact h)
def f36_r0 : List MO := [
(Qa (Qv 2) (Qd (Qo (Qp A.nil))))]
def f36_c0 : MC := .reg false f36_r0
def f36_r1 : List MO := [
(Qa (Qv 3) (MOp.alloc [(D.sl [])]))]
def f36_c1 : MC := .reg false f36_r1
def f36_r2 : List MO := [
(Qa (Qv 5) (Qd (Qn 0))),
(Qa (Qv 6) (Qh 55 [(Qn 5)]))]
def f36_c2 : MC := .reg false f36_r2
def f36_r3 : List MO := [
(Qa (Qv 4) (Qd (Qn 7)))]
def f36_c3 : MC := .reg false f36_r3
def f36_r4 : List MO := [
(Qa (Qv 8) (Qf 1 false (Qn 3))),
(Qa (Qv 9) (Qd (Qn 4))),
(Qa (Qv 10) (MOp.bslice 1 [(Qr Qu 0)] 1 [(0, (Qn 9))])),
(Qa (Qv 11) (MOp.app 1 8 (Qn 8) (Qn 10))),
(Qa none (Ql 1 (Qn 3) (Qn 11)))]
def f36_c4 : MC := .reg false f36_r4
def f36_c5 : MC := .blk 1 f36_c4
def f36_c6 : MC := .rf (Qn 6) [7] f36_c3 f36_c5
def f36_c7 : MC := .blk 0 f36_c6
def f36_c8 : MC := .seq f36_c2 f36_c7
def f36_r9 : List MO := [
(Qa (Qv 12) (Qf 1 false (Qn 3))),
(Qa (Qv 2) (Qd (Qn 12)))]
def f36_c9 : MC := .reg false f36_r9
def f36_c10 : MC := MC.ret
def f36_c11 : MC := .seq f36_c9 f36_c10
def f36_c12 : MC := .seq f36_c8 f36_c11
def f36_c13 : MC := .seq f36_c1 f36_c12
def f36_c14 : MC := .seq f36_c0 f36_c13
noncomputable def f36_code : Code := (Go.Proofs.Tryz.f36.body).getD .skip
theorem f36_body : Go.Proofs.Tryz.f36.body = Qv f36_code := by kernel_rfl
theorem f36_tr : trC Go.Proofs.Tryz.prog [] f36_code = Qv f36_c14 := by kernel_rfl
theorem f36_rs : rsOf Go.Proofs.Tryz.prog Go.Proofs.Tryz.f36.results.toList = Qv [(RV.t 2)] := by kernel_rfl
theorem f36_nt : Go.Proofs.Tryz.f36.ntmps = 13 := by kernel_rfl
theorem f36_ok : callable Go.Proofs.Tryz.prog 36 = true := by kernel_rfl
theorem f36_in {gp : Heap} {args : List V} {res : V} (h : G ⟨Go.Proofs.Tryz.prog, gp, 0, [(RV.t 2)], fun r c => r = res ∧ c = [], false⟩ [.code f36_c14, .fin] ⟨args ++ List.replicate (13 - args.length) .un, []⟩) : Does Go.Proofs.Tryz.prog gp 36 args res :=
  does_intro f36_ok Go.Proofs.Tryz.func36 f36_body f36_tr f36_rs (by rw [f36_nt]; exact h)
theorem f36_tri {gp : Heap} {args : List V} {pre : List Ch} {R : V → List Ch → Prop} (h : G ⟨Go.Proofs.Tryz.prog, gp, pre.length, [(RV.t 2)], R, false⟩ [.code f36_c14, .fin] ⟨args ++ List.replicate (13 - args.length) .un, pre⟩) : Tri Go.Proofs.Tryz.prog gp 36 args pre R :=
  tri_intro Go.Proofs.Tryz.func36 f36_body f36_tr f36_rs (by rw [f36_nt]; exact h)
def f55_r0 : List MO := [
(Qa (Qv 1) (MOp.box (Qn 0))),
(Qa (Qv 2) (Qd (Qo (Qp (Qq D.nilF)))))]
def f55_c0 : MC := .reg false f55_r0
def f55_r1 : List MO := [
(Qa (Qv 3) (MOp.mkF (Go.Fn.func 73) [(Qn 1)])),
(Qa (Qv 2) (Qd (Qn 3)))]
def f55_c1 : MC := .reg false f55_r1
def f55_c2 : MC := MC.ret
def f55_c3 : MC := .seq f55_c1 f55_c2
def f55_c4 : MC := .seq f55_c0 f55_c3
noncomputable def f55_code : Code := (Go.Proofs.Tryz.f55.body).getD .skip
theorem f55_body : Go.Proofs.Tryz.f55.body = Qv f55_code := by kernel_rfl
theorem f55_tr : trC Go.Proofs.Tryz.prog [] f55_code = Qv f55_c4 := by kernel_rfl
theorem f55_rs : rsOf Go.Proofs.Tryz.prog Go.Proofs.Tryz.f55.results.toList = Qv [(RV.t 2)] := by kernel_rfl
theorem f55_nt : Go.Proofs.Tryz.f55.ntmps = 4 := by kernel_rfl
theorem f55_ok : callable Go.Proofs.Tryz.prog 55 = true := by kernel_rfl
theorem f55_in {gp : Heap} {args : List V} {res : V} (h : G ⟨Go.Proofs.Tryz.prog, gp, 0, [(RV.t 2)], fun r c => r = res ∧ c = [], false⟩ [.code f55_c4, .fin] ⟨args ++ List.replicate (4 - args.length) .un, []⟩) : Does Go.Proofs.Tryz.prog gp 55 args res :=
  does_intro f55_ok Go.Proofs.Tryz.func55 f55_body f55_tr f55_rs (by rw [f55_nt]; exact h)
theorem f55_tri {gp : Heap} {args : List V} {pre : List Ch} {R : V → List Ch → Prop} (h : G ⟨Go.Proofs.Tryz.prog, gp, pre.length, [(RV.t 2)], R, false⟩ [.code f55_c4, .fin] ⟨args ++ List.replicate (4 - args.length) .un, pre⟩) : Tri Go.Proofs.Tryz.prog gp 55 args pre R :=
  tri_intro Go.Proofs.Tryz.func55 f55_body f55_tr f55_rs (by rw [f55_nt]; exact h)
def f73_r0 : List MO := [
(Qa (Qv 10) (Qf 1 false (Qn 1))),
(Qa (Qv 11) (MOp.nck (Qn 10))),
(Qa (Qv 12) (Qg 0 (Qn 11))),
(Qa (Qv 13) (Qg 0 (Qn 12))),
(Qa (Qv 14) (Qf 1 false (Qn 13))),
(Qa (Qv 15) (MOp.bslO 1 [(Qr Qu 0)] 1 [(0, (Qn 14))])),
(Qa (Qv 3) (MOp.alloc [(D.sl [])])),
(Qa none (Ql 1 (Qn 3) (Qn 15)))]
def f73_c0 : MC := .reg false f73_r0
def f73_r1 : List MO := [
(Qa (Qv 16) (MOp.mkF (Go.Fn.func 74) [(Qn 3)])),
(Qa (Qv 4) (Qd (Qn 16)))]
def f73_c1 : MC := .reg false f73_r1
def f73_c2 : MC := MC.skip
def f73_r3 : List MO := [
(Qa (Qv 17) (Qf 1 false (Qn 3))),
(Qa (Qv 18) (Qk Qt (Qn 17))),
(Qa (Qv 19) (Qe Qt Go.BinOp.gtr (Qn 18) (Qo (Qp (Qq (Qr Qu 0))))))]
def f73_c3 : MC := .reg false f73_r3
def f73_c4 : MC := MC.skip
def f73_c5 : MC := (MC.exit 0)
def f73_c6 : MC := .cond (Qn 19) f73_c4 f73_c5
def f73_c7 : MC := .seq f73_c3 f73_c6
def f73_r8 : List MO := [
(Qa (Qv 20) (Qf 1 false (Qn 3))),
(Qa (Qv 21) (Qf 1 false (Qn 3))),
(Qa (Qv 22) (Qk Qt (Qn 21))),
(Qa (Qv 23) (Qe Qt Go.BinOp.sub (Qn 22) (Qo (Qp (Qq (Qr Qu 1)))))),
(Qa (Qv 24) (Qj 1 (Qn 20) (Qn 23))),
(Qa (Qv 25) (Qf 1 false (Qn 24))),
(Qa (Qv 5) (Qd (Qn 25)))]
def f73_c8 : MC := .reg false f73_r8
def f73_r9 : List MO := [
(Qa (Qv 26) (Qf 1 false (Qn 3))),
(Qa (Qv 27) (Qf 1 false (Qn 3))),
(Qa (Qv 28) (Qk Qt (Qn 27))),
(Qa (Qv 29) (Qe Qt Go.BinOp.sub (Qn 28) (Qo (Qp (Qq (Qr Qu 1)))))),
(Qa (Qv 30) (MOp.slc 1 (Qn 26) none (Qv (Qn 29)))),
(Qa none (Ql 1 (Qn 3) (Qn 30)))]
def f73_c9 : MC := .reg false f73_r9
def f73_r10 : List MO := [
(Qa (Qv 32) (Qf 1 false (Qn 1))),
(Qa (Qv 33) (MOp.nck (Qn 32))),
(Qa (Qv 34) (Qg 2 (Qn 33))),
(Qa (Qv 35) (Qf 1 false (Qn 34))),
(Qa (Qv 36) (Qd (Qn 5))),
(Qa (Qv 37) (MOp.lkp true (Qp (Qq (Qr Qu 0))) false [Qt] (Qn 35) (Qn 36))),
(Qa (Qv 31) (Qd (Qn 37))),
(Qa (Qv 38) (Qi (Qn 31) 0)),
(Qa (Qv 39) (Qi (Qn 31) 1)),
(Qa (Qv 6) (Qd (Qn 38))),
(Qa (Qv 7) (Qd (Qn 39)))]
def f73_c10 : MC := .reg false f73_r10
def f73_r11 : List MO := [
(Qa (Qv 40) (Qd (Qn 7)))]
def f73_c11 : MC := .reg false f73_r11
def f73_c12 : MC := (MC.exit 1)
def f73_c13 : MC := MC.skip
def f73_c14 : MC := .cond (Qn 40) f73_c12 f73_c13
def f73_c15 : MC := .seq f73_c11 f73_c14
def f73_c16 : MC := .seq f73_c10 f73_c15
def f73_r17 : List MO := [
(Qa (Qv 41) (Qf 1 false (Qn 1))),
(Qa (Qv 42) (MOp.nck (Qn 41))),
(Qa (Qv 43) (Qg 2 (Qn 42))),
(Qa (Qv 44) (Qf 1 false (Qn 43))),
(Qa (Qv 45) (Qd (Qn 5))),
(Qa (Qv 46) (Qf 1 false (Qn 1))),
(Qa (Qv 47) (MOp.nck (Qn 46))),
(Qa (Qv 48) (Qg 2 (Qn 47))),
(Qa (Qv 49) (Qf 1 false (Qn 48))),
(Qa (Qv 50) (Qk Leaf.b (Qn 49))),
(Qa none (MOp.mupd false [Qt] (Qn 44) (Qn 45) (Qn 50)))]
def f73_c17 : MC := .reg true f73_r17
def f73_r18 : List MO := [
(Qa (Qv 51) (Qd (Qn 0))),
(Qa (Qv 52) (Qd (Qn 5))),
(Qa (Qv 53) (MOp.callv (Qn 51) [(Qn 52)])),
(Qa (Qv 54) (MOp.not (Qn 53)))]
def f73_c18 : MC := .reg false f73_r18
def f73_c19 : MC := (MC.exit 0)
def f73_c20 : MC := MC.skip
def f73_c21 : MC := .cond (Qn 54) f73_c19 f73_c20
def f73_c22 : MC := .seq f73_c18 f73_c21
def f73_r23 : List MO := [
(Qa (Qv 56) (Qf 1 false (Qn 1))),
(Qa (Qv 57) (MOp.nck (Qn 56))),
(Qa (Qv 58) (Qg 0 (Qn 57))),
(Qa (Qv 59) (Qf 2 true (Qn 58))),
(Qa (Qv 60) (Qd (Qn 5))),
(Qa (Qv 61) (Qh 34 [(Qn 59), (Qn 60)])),
(Qa (Qv 55) (Qd (Qn 61))),
(Qa (Qv 62) (Qi (Qn 55) 0)),
(Qa (Qv 63) (Qi (Qn 55) 1)),
(Qa (Qv 8) (Qd (Qn 62))),
(Qa (Qv 9) (Qd (Qn 63)))]
def f73_c23 : MC := .reg false f73_r23
def f73_r24 : List MO := [
(Qa (Qv 64) (Qd (Qn 4))),
(Qa (Qv 65) (Qd (Qn 8))),
(Qa (Qv 66) (MOp.callv (Qn 64) [(Qn 65)]))]
def f73_c24 : MC := .reg false f73_r24
def f73_c25 : MC := .seq f73_c23 f73_c24
def f73_c26 : MC := .seq f73_c22 f73_c25
def f73_c27 : MC := .seq f73_c17 f73_c26
def f73_c28 : MC := .seq f73_c16 f73_c27
def f73_c29 : MC := .seq f73_c9 f73_c28
def f73_c30 : MC := .seq f73_c8 f73_c29
def f73_c31 : MC := .blk 1 f73_c30
def f73_c32 : MC := .seq f73_c7 f73_c31
def f73_c33 : MC := .loop f73_c32
def f73_c34 : MC := .blk 0 f73_c33
def f73_c35 : MC := .seq f73_c2 f73_c34
def f73_c36 : MC := .seq f73_c1 f73_c35
def f73_c37 : MC := .seq f73_c0 f73_c36
def f73_c38 : MC := .scope f73_c37
noncomputable def f73_code : Code := (Go.Proofs.Tryz.f73.body).getD .skip
theorem f73_body : Go.Proofs.Tryz.f73.body = Qv f73_code := by kernel_rfl
theorem f73_tr : trC Go.Proofs.Tryz.prog [15] f73_code = Qv f73_c38 := by kernel_rfl
theorem f73_rs : rsOf Go.Proofs.Tryz.prog Go.Proofs.Tryz.f73.results.toList = Qv [] := by kernel_rfl
theorem f73_nt : Go.Proofs.Tryz.f73.ntmps = 67 := by kernel_rfl
theorem f73_ok : callable Go.Proofs.Tryz.prog 73 = true := by kernel_rfl
theorem f73_in {gp : Heap} {args : List V} {res : V} (h : G ⟨Go.Proofs.Tryz.prog, gp, 0, [], fun r c => r = res ∧ c = [], false⟩ [.code f73_c38, .fin] ⟨args ++ List.replicate (67 - args.length) .un, []⟩) : Does Go.Proofs.Tryz.prog gp 73 args res :=
  does_intro f73_ok Go.Proofs.Tryz.func73 f73_body f73_tr f73_rs (by rw [f73_nt]; exact h)
theorem f73_tri {gp : Heap} {args : List V} {pre : List Ch} {R : V → List Ch → Prop} (h : G ⟨Go.Proofs.Tryz.prog, gp, pre.length, [], R, false⟩ [.code f73_c38, .fin] ⟨args ++ List.replicate (67 - args.length) .un, pre⟩) : Tri Go.Proofs.Tryz.prog gp 73 args pre R :=
  tri_intro Go.Proofs.Tryz.func73 f73_body f73_tr f73_rs (by rw [f73_nt]; exact h)
def f74_r0 : List MO := [
(Qa (Qv 4) (Qd (Qn 0))),
(Qa (Qv 5) (Qk Qt (Qn 4))),
(Qa (Qv 6) (Qe Qt Go.BinOp.sub (Qn 5) (Qo (Qp (Qq (Qr Qu 1)))))),
(Qa (Qv 3) (Qd (Qn 6)))]
def f74_c0 : MC := .reg false f74_r0
def f74_r1 : List MO := [
(Qa (Qv 7) (Qd (Qn 3))),
(Qa (Qv 8) (Qe Qt Go.BinOp.geq (Qn 7) (Qo (Qp (Qq (Qr Qu 0))))))]
def f74_c1 : MC := .reg false f74_r1
def f74_c2 : MC := MC.skip
def f74_c3 : MC := (MC.exit 0)
def f74_c4 : MC := .cond (Qn 8) f74_c2 f74_c3
def f74_c5 : MC := .seq f74_c1 f74_c4
def f74_r6 : List MO := [
(Qa (Qv 11) (Qf 1 false (Qn 1))),
(Qa (Qv 12) (Qd (Qn 0))),
(Qa (Qv 13) (Qd (Qn 3))),
(Qa (Qv 14) (Qj 1 (Qn 12) (Qn 13))),
(Qa (Qv 15) (Qf 1 false (Qn 14))),
(Qa (Qv 16) (MOp.bslice 1 [(Qr Qu 0)] 1 [(0, (Qn 15))])),
(Qa (Qv 17) (MOp.app 1 8 (Qn 11) (Qn 16))),
(Qa none (Ql 1 (Qn 1) (Qn 17)))]
def f74_c6 : MC := .reg true f74_r6
def f74_c7 : MC := .blk 1 f74_c6
def f74_r8 : List MO := [
(Qa (Qv 9) (Qd (Qn 3))),
(Qa (Qv 10) (Qe Qt Go.BinOp.sub (Qn 9) (Qo (Qp (Qq (Qr Qu 1)))))),
(Qa (Qv 3) (Qd (Qn 10)))]
def f74_c8 : MC := .reg false f74_r8
def f74_c9 : MC := .seq f74_c7 f74_c8
def f74_c10 : MC := .seq f74_c5 f74_c9
def f74_c11 : MC := .loop f74_c10
def f74_c12 : MC := .blk 0 f74_c11
def f74_c13 : MC := .seq f74_c0 f74_c12
noncomputable def f74_code : Code := (Go.Proofs.Tryz.f74.body).getD .skip
theorem f74_body : Go.Proofs.Tryz.f74.body = Qv f74_code := by kernel_rfl
theorem f74_tr : trC Go.Proofs.Tryz.prog [] f74_code = Qv f74_c13 := by kernel_rfl
theorem f74_rs : rsOf Go.Proofs.Tryz.prog Go.Proofs.Tryz.f74.results.toList = Qv [] := by kernel_rfl
theorem f74_nt : Go.Proofs.Tryz.f74.ntmps = 18 := by kernel_rfl
theorem f74_ok : callable Go.Proofs.Tryz.prog 74 = true := by kernel_rfl
theorem f74_in {gp : Heap} {args : List V} {res : V} (h : G ⟨Go.Proofs.Tryz.prog, gp, 0, [], fun r c => r = res ∧ c = [], false⟩ [.code f74_c13, .fin] ⟨args ++ List.replicate (18 - args.length) .un, []⟩) : Does Go.Proofs.Tryz.prog gp 74 args res :=
  does_intro f74_ok Go.Proofs.Tryz.func74 f74_body f74_tr f74_rs (by rw [f74_nt]; exact h)
theorem f74_tri {gp : Heap} {args : List V} {pre : List Ch} {R : V → List Ch → Prop} (h : G ⟨Go.Proofs.Tryz.prog, gp, pre.length, [], R, false⟩ [.code f74_c13, .fin] ⟨args ++ List.replicate (18 - args.length) .un, pre⟩) : Tri Go.Proofs.Tryz.prog gp 74 args pre R :=
  tri_intro Go.Proofs.Tryz.func74 f74_body f74_tr f74_rs (by rw [f74_nt]; exact h)
end Go.Fw.L07
