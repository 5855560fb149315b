/- Small codes. -/
import Derived.Test.YtfonfncokpdaaaaDoorFd
import Derived.Test.YtfonfncokpdaaaaDoorProg
set_option linter.all false
namespace Go.Fw.L07
open Go Go.Fw
open Go.Fw.MO renaming op → Qa, chk → Qb, opx → Qc
open Go.Fw.MOp renaming mv → Qd, bin → Qe, load → Qf, fad → Qg, call → Qh, ext → Qi, iad → Qj, len → Qk, store → Ql, pick → Qm
open Go.Fw.Opd renaming t → Qn, c → Qo
open Go.Fw.V renaming one → Qp
open Go.Fw.A renaming d → Qq
open Go.Fw.D renaming int → Qr, bool → Qs
open Go.Fw.Leaf renaming i → Qt
open Go.IntKind renaming i64 → Qu
open Option renaming some → Qv
/-! sigillary/reach.At -/
def f22_r0 : List MO := [
(Qa (Qv 2) (MOp.ibox (Qn 0))),
(Qa (Qv 4) (Qd (Qo (Qp (Qq (Qr Qu 0)))))),
(Qa (Qv 5) (Qd (Qo (Qp (Qq (Qs false))))))]
def f22_c0 : MC := .reg false f22_r0
def f22_r1 : List MO := [
(Qa (Qv 14) (Qf 2 true (Qn 2))),
(Qa (Qv 15) (Qh 10 [(Qn 14)])),
(Qa (Qv 13) (Qd (Qn 15))),
(Qa (Qv 16) (Qi (Qn 13) 0)),
(Qa (Qv 17) (Qi (Qn 13) 1)),
(Qa (Qv 6) (Qd (Qn 16))),
(Qa (Qv 7) (Qd (Qn 17)))]
def f22_c1 : MC := .reg false f22_r1
def f22_r2 : List MO := [
(Qa (Qv 18) (Qd (Qn 7))),
(Qa (Qv 19) (Qe Qt Go.BinOp.neq (Qn 18) (Qo (Qp (Qq (Qr Qu 0))))))]
def f22_c2 : MC := .reg false f22_r2
def f22_r3 : List MO := [
(Qa (Qv 4) (Qd (Qo (Qp (Qq (Qr Qu 0)))))),
(Qa (Qv 5) (Qd (Qo (Qp (Qq (Qs false))))))]
def f22_c3 : MC := .reg false f22_r3
def f22_c4 : MC := MC.ret
def f22_c5 : MC := .seq f22_c3 f22_c4
def f22_c6 : MC := MC.skip
def f22_c7 : MC := .cond (Qn 19) f22_c5 f22_c6
def f22_c8 : MC := .seq f22_c2 f22_c7
def f22_c9 : MC := .seq f22_c1 f22_c8
def f22_r10 : List MO := [
(Qa (Qv 20) (Qg 0 (Qn 2))),
(Qa (Qv 21) (Qf 1 false (Qn 20))),
(Qa (Qv 8) (Qd (Qn 21)))]
def f22_c10 : MC := .reg false f22_r10
def f22_r11 : List MO := [
(Qa (Qv 22) (Qd (Qn 1))),
(Qa (Qv 23) (Qk Qt (Qn 22))),
(Qa (Qv 24) (Qd (Qo (Qp (Qq (Qr Qu 0))))))]
def f22_c11 : MC := .reg false f22_r11
def f22_r12 : List MO := [
(Qa (Qv 25) (Qe Qt Go.BinOp.lss (Qn 24) (Qn 23)))]
def f22_c12 : MC := .reg false f22_r12
def f22_c13 : MC := MC.skip
def f22_c14 : MC := (MC.exit 0)
def f22_c15 : MC := .cond (Qn 25) f22_c13 f22_c14
def f22_r16 : List MO := [
(Qa (Qv 26) (Qj 1 (Qn 22) (Qn 24))),
(Qa (Qv 27) (Qf 1 false (Qn 26))),
(Qa (Qv 10) (Qd (Qn 27)))]
def f22_c16 : MC := .reg false f22_r16
def f22_r17 : List MO := [
(Qa (Qv 29) (Qf 2 true (Qn 2))),
(Qa (Qv 30) (Qd (Qn 8))),
(Qa (Qv 31) (Qh 11 [(Qn 29), (Qn 30)])),
(Qa (Qv 28) (Qd (Qn 31))),
(Qa (Qv 32) (Qi (Qn 28) 0)),
(Qa (Qv 33) (Qi (Qn 28) 1)),
(Qa (Qv 11) (Qd (Qn 32))),
(Qa (Qv 12) (Qd (Qn 33)))]
def f22_c17 : MC := .reg false f22_r17
def f22_r18 : List MO := [
(Qa (Qv 34) (Qd (Qn 10))),
(Qa (Qv 35) (Qe Qt Go.BinOp.lss (Qn 34) (Qo (Qp (Qq (Qr Qu 0)))))),
(Qa (Qv 36) (Qd (Qn 35))),
(Qb 36 false (Qv 37)),
(Qa (Qv 37) (Qd (Qn 10))),
(Qb 36 false (Qv 38)),
(Qa (Qv 38) (Qd (Qn 11))),
(Qb 36 false (Qv 39)),
(Qa (Qv 39) (Qk Qt (Qn 38))),
(Qb 36 false (Qv 40)),
(Qa (Qv 40) (Qe Qt Go.BinOp.geq (Qn 37) (Qn 39))),
(Qa (Qv 41) (Qm (Qn 36) (Qo (Qp (Qq (Qs true)))) (Qn 40)))]
def f22_c18 : MC := .reg false f22_r18
def f22_r19 : List MO := [
(Qa (Qv 4) (Qd (Qo (Qp (Qq (Qr Qu 0)))))),
(Qa (Qv 5) (Qd (Qo (Qp (Qq (Qs false))))))]
def f22_c19 : MC := .reg false f22_r19
def f22_c20 : MC := MC.ret
def f22_c21 : MC := .seq f22_c19 f22_c20
def f22_c22 : MC := MC.skip
def f22_c23 : MC := .cond (Qn 41) f22_c21 f22_c22
def f22_c24 : MC := .seq f22_c18 f22_c23
def f22_r25 : List MO := [
(Qa (Qv 42) (Qd (Qn 11))),
(Qa (Qv 43) (Qd (Qn 10))),
(Qa (Qv 44) (Qj 1 (Qn 42) (Qn 43))),
(Qa (Qv 45) (Qf 1 false (Qn 44))),
(Qa (Qv 8) (Qd (Qn 45)))]
def f22_c25 : MC := .reg false f22_r25
def f22_c26 : MC := .seq f22_c24 f22_c25
def f22_c27 : MC := .seq f22_c17 f22_c26
def f22_c28 : MC := .seq f22_c16 f22_c27
def f22_c29 : MC := .blk 1 f22_c28
def f22_r30 : List MO := [
(Qa (Qv 46) (Qe Qt Go.BinOp.add (Qn 24) (Qo (Qp (Qq (Qr Qu 1)))))),
(Qa (Qv 24) (Qd (Qn 46)))]
def f22_c30 : MC := .reg false f22_r30
def f22_c31 : MC := .seq f22_c29 f22_c30
def f22_c32 : MC := .seq f22_c15 f22_c31
def f22_c33 : MC := .seq f22_c12 f22_c32
def f22_c34 : MC := .loop f22_c33
def f22_c35 : MC := .blk 0 f22_c34
def f22_c36 : MC := .seq f22_c11 f22_c35
def f22_r37 : List MO := [
(Qa (Qv 47) (Qd (Qn 8))),
(Qa (Qv 4) (Qd (Qn 47))),
(Qa (Qv 5) (Qd (Qo (Qp (Qq (Qs true))))))]
def f22_c37 : MC := .reg false f22_r37
def f22_c38 : MC := MC.ret
def f22_c39 : MC := .seq f22_c37 f22_c38
def f22_c40 : MC := .seq f22_c36 f22_c39
def f22_c41 : MC := .seq f22_c10 f22_c40
def f22_c42 : MC := .seq f22_c9 f22_c41
def f22_c43 : MC := .seq f22_c0 f22_c42
noncomputable def f22_code : Code := (Go.Proofs.Tryd.f22.body).getD .skip
theorem f22_body : Go.Proofs.Tryd.f22.body = Qv f22_code := by kernel_rfl
theorem f22_tr : trC Go.Proofs.Tryd.prog [2] f22_code = Qv f22_c43 := by kernel_rfl
theorem f22_rs : rsOf Go.Proofs.Tryd.prog Go.Proofs.Tryd.f22.results.toList = Qv [(RV.t 4), (RV.t 5)] := by kernel_rfl
theorem f22_nt : Go.Proofs.Tryd.f22.ntmps = 48 := by kernel_rfl
theorem f22_ok : callable Go.Proofs.Tryd.prog 22 = true := by kernel_rfl
theorem f22_in {gp : Heap} {args : List V} {res : V} (h : G ⟨Go.Proofs.Tryd.prog, gp, 0, [(RV.t 4), (RV.t 5)], fun r c => r = res ∧ c = [], false⟩ [.code f22_c43, .fin] ⟨args ++ List.replicate (48 - args.length) .un, []⟩) : Does Go.Proofs.Tryd.prog gp 22 args res :=
  does_intro f22_ok Go.Proofs.Tryd.func22 f22_body f22_tr f22_rs (by rw [f22_nt]; exact h)
theorem f22_tri {gp : Heap} {args : List V} {pre : List Ch} {R : V → List Ch → Prop} (h : G ⟨Go.Proofs.Tryd.prog, gp, pre.length, [(RV.t 4), (RV.t 5)], R, false⟩ [.code f22_c43, .fin] ⟨args ++ List.replicate (48 - args.length) .un, pre⟩) : Tri Go.Proofs.Tryd.prog gp 22 args pre R :=
  tri_intro Go.Proofs.Tryd.func22 f22_body f22_tr f22_rs (by rw [f22_nt]; exact h)

/-! sigillary/reach.Walk -/
def f23_r0 : List MO := [
(Qa (Qv 1) (MOp.ibox (Qn 0))),
(Qa (Qv 2) (Qd (Qo (Qp A.nil)))),
(Qa (Qv 3) (Qd (Qo (Qp (Qq (Qr Qu 0))))))]
def f23_c0 : MC := .reg false f23_r0
def f23_r1 : List MO := [
(Qa (Qv 7) (Qf 2 true (Qn 1))),
(Qa (Qv 8) (Qh 10 [(Qn 7)])),
(Qa (Qv 6) (Qd (Qn 8))),
(Qa (Qv 9) (Qi (Qn 6) 0)),
(Qa (Qv 10) (Qi (Qn 6) 1)),
(Qa (Qv 4) (Qd (Qn 9))),
(Qa (Qv 5) (Qd (Qn 10)))]
def f23_c1 : MC := .reg false f23_r1
def f23_r2 : List MO := [
(Qa (Qv 11) (Qd (Qn 5))),
(Qa (Qv 12) (Qe Qt Go.BinOp.neq (Qn 11) (Qo (Qp (Qq (Qr Qu 0))))))]
def f23_c2 : MC := .reg false f23_r2
def f23_r3 : List MO := [
(Qa (Qv 13) (Qd (Qn 5))),
(Qa (Qv 2) (Qd (Qo (Qp A.nil)))),
(Qa (Qv 3) (Qd (Qn 13)))]
def f23_c3 : MC := .reg false f23_r3
def f23_c4 : MC := MC.ret
def f23_c5 : MC := .seq f23_c3 f23_c4
def f23_c6 : MC := MC.skip
def f23_c7 : MC := .cond (Qn 12) f23_c5 f23_c6
def f23_c8 : MC := .seq f23_c2 f23_c7
def f23_c9 : MC := .seq f23_c1 f23_c8
def f23_r10 : List MO := [
(Qa (Qv 14) (Qf 2 true (Qn 1))),
(Qa (Qv 15) (Qh 39 [(Qn 14)])),
(Qa (Qv 16) (Qh 40 [(Qn 15)])),
(Qa (Qv 2) (Qd (Qn 16))),
(Qa (Qv 3) (Qd (Qo (Qp (Qq (Qr Qu 0))))))]
def f23_c10 : MC := .reg false f23_r10
def f23_c11 : MC := MC.ret
def f23_c12 : MC := .seq f23_c10 f23_c11
def f23_c13 : MC := .seq f23_c9 f23_c12
def f23_c14 : MC := .seq f23_c0 f23_c13
noncomputable def f23_code : Code := (Go.Proofs.Tryd.f23.body).getD .skip
theorem f23_body : Go.Proofs.Tryd.f23.body = Qv f23_code := by kernel_rfl
theorem f23_tr : trC Go.Proofs.Tryd.prog [1] f23_code = Qv f23_c14 := by kernel_rfl
theorem f23_rs : rsOf Go.Proofs.Tryd.prog Go.Proofs.Tryd.f23.results.toList = Qv [(RV.t 2), (RV.t 3)] := by kernel_rfl
theorem f23_nt : Go.Proofs.Tryd.f23.ntmps = 17 := by kernel_rfl
theorem f23_ok : callable Go.Proofs.Tryd.prog 23 = true := by kernel_rfl
theorem f23_in {gp : Heap} {args : List V} {res : V} (h : G ⟨Go.Proofs.Tryd.prog, gp, 0, [(RV.t 2), (RV.t 3)], fun r c => r = res ∧ c = [], false⟩ [.code f23_c14, .fin] ⟨args ++ List.replicate (17 - args.length) .un, []⟩) : Does Go.Proofs.Tryd.prog gp 23 args res :=
  does_intro f23_ok Go.Proofs.Tryd.func23 f23_body f23_tr f23_rs (by rw [f23_nt]; exact h)
theorem f23_tri {gp : Heap} {args : List V} {pre : List Ch} {R : V → List Ch → Prop} (h : G ⟨Go.Proofs.Tryd.prog, gp, pre.length, [(RV.t 2), (RV.t 3)], R, false⟩ [.code f23_c14, .fin] ⟨args ++ List.replicate (17 - args.length) .un, pre⟩) : Tri Go.Proofs.Tryd.prog gp 23 args pre R :=
  tri_intro Go.Proofs.Tryd.func23 f23_body f23_tr f23_rs (by rw [f23_nt]; exact h)

/-! sigillary/reach.of -/
def f39_r0 : List MO := [
(Qa (Qv 1) (MOp.ibox (Qn 0))),
(Qa (Qv 2) (Qd (Qo (Qp (Qq D.nilP)))))]
def f39_c0 : MC := .reg false f39_r0
def f39_r1 : List MO := [
(Qa (Qv 3) (Qf 2 true (Qn 1))),
(Qa (Qv 4) MOp.mkM),
(Qa (Qv 5) (MOp.build [(Qr Qu 0), (D.sl []), (D.raw (Go.Value.map none))] [(0, (2, (Qn 3))), (2, (1, (Qn 4)))])),
(Qa (Qv 6) (MOp.box (Qn 5))),
(Qa (Qv 2) (Qd (Qn 6)))]
def f39_c1 : MC := .reg false f39_r1
def f39_c2 : MC := MC.ret
def f39_c3 : MC := .seq f39_c1 f39_c2
def f39_c4 : MC := .seq f39_c0 f39_c3
noncomputable def f39_code : Code := (Go.Proofs.Tryd.f39.body).getD .skip
theorem f39_body : Go.Proofs.Tryd.f39.body = Qv f39_code := by kernel_rfl
theorem f39_tr : trC Go.Proofs.Tryd.prog [1] f39_code = Qv f39_c4 := by kernel_rfl
theorem f39_rs : rsOf Go.Proofs.Tryd.prog Go.Proofs.Tryd.f39.results.toList = Qv [(RV.t 2)] := by kernel_rfl
theorem f39_nt : Go.Proofs.Tryd.f39.ntmps = 7 := by kernel_rfl
theorem f39_ok : callable Go.Proofs.Tryd.prog 39 = true := by kernel_rfl
theorem f39_in {gp : Heap} {args : List V} {res : V} (h : G ⟨Go.Proofs.Tryd.prog, gp, 0, [(RV.t 2)], fun r c => r = res ∧ c = [], false⟩ [.code f39_c4, .fin] ⟨args ++ List.replicate (7 - args.length) .un, []⟩) : Does Go.Proofs.Tryd.prog gp 39 args res :=
  does_intro f39_ok Go.Proofs.Tryd.func39 f39_body f39_tr f39_rs (by rw [f39_nt]; exact h)
theorem f39_tri {gp : Heap} {args : List V} {pre : List Ch} {R : V → List Ch → Prop} (h : G ⟨Go.Proofs.Tryd.prog, gp, pre.length, [(RV.t 2)], R, false⟩ [.code f39_c4, .fin] ⟨args ++ List.replicate (7 - args.length) .un, pre⟩) : Tri Go.Proofs.Tryd.prog gp 39 args pre R :=
  tri_intro Go.Proofs.Tryd.func39 f39_body f39_tr f39_rs (by rw [f39_nt]; exact h)

/-! (*sigillary/reach.walker).walk -/
def f40_r0 : List MO := [
(Qa (Qv 2) (Qd (Qo (Qp A.nil))))]
def f40_c0 : MC := .reg false f40_r0
def f40_r1 : List MO := [
(Qa (Qv 3) (MOp.alloc [(D.sl [])]))]
def f40_c1 : MC := .reg false f40_r1
def f40_r2 : List MO := [
(Qa (Qv 5) (Qd (Qn 0))),
(Qa (Qv 6) (Qh 62 [(Qn 5)]))]
def f40_c2 : MC := .reg false f40_r2
def f40_r3 : List MO := [
(Qa (Qv 4) (Qd (Qn 7)))]
def f40_c3 : MC := .reg false f40_r3
def f40_r4 : List MO := [
(Qa (Qv 8) (Qf 1 false (Qn 3))),
(Qa (Qv 9) (Qd (Qn 4))),
(Qa (Qv 10) (MOp.bslice 1 [(Qr Qu 0)] 1 [(0, (Qn 9))])),
(Qa (Qv 11) (MOp.app 1 8 (Qn 8) (Qn 10))),
(Qa none (Ql 1 (Qn 3) (Qn 11)))]
def f40_c4 : MC := .reg false f40_r4
def f40_c5 : MC := .blk 1 f40_c4
def f40_c6 : MC := .rf (Qn 6) [7] f40_c3 f40_c5
def f40_c7 : MC := .blk 0 f40_c6
def f40_c8 : MC := .seq f40_c2 f40_c7
def f40_r9 : List MO := [
(Qa (Qv 12) (Qf 1 false (Qn 3))),
(Qa (Qv 2) (Qd (Qn 12)))]
def f40_c9 : MC := .reg false f40_r9
def f40_c10 : MC := MC.ret
def f40_c11 : MC := .seq f40_c9 f40_c10
def f40_c12 : MC := .seq f40_c8 f40_c11
def f40_c13 : MC := .seq f40_c1 f40_c12
def f40_c14 : MC := .seq f40_c0 f40_c13
noncomputable def f40_code : Code := (Go.Proofs.Tryd.f40.body).getD .skip
theorem f40_body : Go.Proofs.Tryd.f40.body = Qv f40_code := by kernel_rfl
theorem f40_tr : trC Go.Proofs.Tryd.prog [] f40_code = Qv f40_c14 := by kernel_rfl
theorem f40_rs : rsOf Go.Proofs.Tryd.prog Go.Proofs.Tryd.f40.results.toList = Qv [(RV.t 2)] := by kernel_rfl
theorem f40_nt : Go.Proofs.Tryd.f40.ntmps = 13 := by kernel_rfl
theorem f40_ok : callable Go.Proofs.Tryd.prog 40 = true := by kernel_rfl
theorem f40_in {gp : Heap} {args : List V} {res : V} (h : G ⟨Go.Proofs.Tryd.prog, gp, 0, [(RV.t 2)], fun r c => r = res ∧ c = [], false⟩ [.code f40_c14, .fin] ⟨args ++ List.replicate (13 - args.length) .un, []⟩) : Does Go.Proofs.Tryd.prog gp 40 args res :=
  does_intro f40_ok Go.Proofs.Tryd.func40 f40_body f40_tr f40_rs (by rw [f40_nt]; exact h)
theorem f40_tri {gp : Heap} {args : List V} {pre : List Ch} {R : V → List Ch → Prop} (h : G ⟨Go.Proofs.Tryd.prog, gp, pre.length, [(RV.t 2)], R, false⟩ [.code f40_c14, .fin] ⟨args ++ List.replicate (13 - args.length) .un, pre⟩) : Tri Go.Proofs.Tryd.prog gp 40 args pre R :=
  tri_intro Go.Proofs.Tryd.func40 f40_body f40_tr f40_rs (by rw [f40_nt]; exact h)

/-! (*sigillary/reach.walker).nodes -/
def f62_r0 : List MO := [
(Qa (Qv 1) (MOp.box (Qn 0))),
(Qa (Qv 2) (Qd (Qo (Qp (Qq D.nilF)))))]
def f62_c0 : MC := .reg false f62_r0
def f62_r1 : List MO := [
(Qa (Qv 3) (MOp.mkF (Go.Fn.func 76) [(Qn 1)])),
(Qa (Qv 2) (Qd (Qn 3)))]
def f62_c1 : MC := .reg false f62_r1
def f62_c2 : MC := MC.ret
def f62_c3 : MC := .seq f62_c1 f62_c2
def f62_c4 : MC := .seq f62_c0 f62_c3
noncomputable def f62_code : Code := (Go.Proofs.Tryd.f62.body).getD .skip
theorem f62_body : Go.Proofs.Tryd.f62.body = Qv f62_code := by kernel_rfl
theorem f62_tr : trC Go.Proofs.Tryd.prog [] f62_code = Qv f62_c4 := by kernel_rfl
theorem f62_rs : rsOf Go.Proofs.Tryd.prog Go.Proofs.Tryd.f62.results.toList = Qv [(RV.t 2)] := by kernel_rfl
theorem f62_nt : Go.Proofs.Tryd.f62.ntmps = 4 := by kernel_rfl
theorem f62_ok : callable Go.Proofs.Tryd.prog 62 = true := by kernel_rfl
theorem f62_in {gp : Heap} {args : List V} {res : V} (h : G ⟨Go.Proofs.Tryd.prog, gp, 0, [(RV.t 2)], fun r c => r = res ∧ c = [], false⟩ [.code f62_c4, .fin] ⟨args ++ List.replicate (4 - args.length) .un, []⟩) : Does Go.Proofs.Tryd.prog gp 62 args res :=
  does_intro f62_ok Go.Proofs.Tryd.func62 f62_body f62_tr f62_rs (by rw [f62_nt]; exact h)
theorem f62_tri {gp : Heap} {args : List V} {pre : List Ch} {R : V → List Ch → Prop} (h : G ⟨Go.Proofs.Tryd.prog, gp, pre.length, [(RV.t 2)], R, false⟩ [.code f62_c4, .fin] ⟨args ++ List.replicate (4 - args.length) .un, pre⟩) : Tri Go.Proofs.Tryd.prog gp 62 args pre R :=
  tri_intro Go.Proofs.Tryd.func62 f62_body f62_tr f62_rs (by rw [f62_nt]; exact h)

-- f63: no body
-- f64: no body
-- f65: no body
-- f66: trC none
/-! (*sigillary/reach.walker).nodes$1 -/
def f76_r0 : List MO := [
(Qa (Qv 10) (Qf 1 false (Qn 1))),
(Qa (Qv 11) (MOp.nck (Qn 10))),
(Qa (Qv 12) (Qg 0 (Qn 11))),
(Qa (Qv 13) (Qg 0 (Qn 12))),
(Qa (Qv 14) (Qf 1 false (Qn 13))),
(Qa (Qv 15) (MOp.bslO 1 [(Qr Qu 0)] 1 [(0, (Qn 14))])),
(Qa (Qv 3) (MOp.alloc [(D.sl [])])),
(Qa none (Ql 1 (Qn 3) (Qn 15)))]
def f76_c0 : MC := .reg false f76_r0
def f76_r1 : List MO := [
(Qa (Qv 16) (MOp.mkF (Go.Fn.func 77) [(Qn 3)])),
(Qa (Qv 4) (Qd (Qn 16)))]
def f76_c1 : MC := .reg false f76_r1
def f76_c2 : MC := MC.skip
def f76_r3 : List MO := [
(Qa (Qv 17) (Qf 1 false (Qn 3))),
(Qa (Qv 18) (Qk Qt (Qn 17))),
(Qa (Qv 19) (Qe Qt Go.BinOp.gtr (Qn 18) (Qo (Qp (Qq (Qr Qu 0))))))]
def f76_c3 : MC := .reg false f76_r3
def f76_c4 : MC := MC.skip
def f76_c5 : MC := (MC.exit 0)
def f76_c6 : MC := .cond (Qn 19) f76_c4 f76_c5
def f76_c7 : MC := .seq f76_c3 f76_c6
def f76_r8 : List MO := [
(Qa (Qv 20) (Qf 1 false (Qn 3))),
(Qa (Qv 21) (Qf 1 false (Qn 3))),
(Qa (Qv 22) (Qk Qt (Qn 21))),
(Qa (Qv 23) (Qe Qt Go.BinOp.sub (Qn 22) (Qo (Qp (Qq (Qr Qu 1)))))),
(Qa (Qv 24) (Qj 1 (Qn 20) (Qn 23))),
(Qa (Qv 25) (Qf 1 false (Qn 24))),
(Qa (Qv 5) (Qd (Qn 25)))]
def f76_c8 : MC := .reg false f76_r8
def f76_r9 : List MO := [
(Qa (Qv 26) (Qf 1 false (Qn 3))),
(Qa (Qv 27) (Qf 1 false (Qn 3))),
(Qa (Qv 28) (Qk Qt (Qn 27))),
(Qa (Qv 29) (Qe Qt Go.BinOp.sub (Qn 28) (Qo (Qp (Qq (Qr Qu 1)))))),
(Qa (Qv 30) (MOp.slc 1 (Qn 26) none (Qv (Qn 29)))),
(Qa none (Ql 1 (Qn 3) (Qn 30)))]
def f76_c9 : MC := .reg false f76_r9
def f76_r10 : List MO := [
(Qa (Qv 32) (Qf 1 false (Qn 1))),
(Qa (Qv 33) (MOp.nck (Qn 32))),
(Qa (Qv 34) (Qg 2 (Qn 33))),
(Qa (Qv 35) (Qf 1 false (Qn 34))),
(Qa (Qv 36) (Qd (Qn 5))),
(Qa (Qv 37) (MOp.lkp true (Qp (Qq (Qr Qu 0))) false [Qt] (Qn 35) (Qn 36))),
(Qa (Qv 31) (Qd (Qn 37))),
(Qa (Qv 38) (Qi (Qn 31) 0)),
(Qa (Qv 39) (Qi (Qn 31) 1)),
(Qa (Qv 6) (Qd (Qn 38))),
(Qa (Qv 7) (Qd (Qn 39)))]
def f76_c10 : MC := .reg false f76_r10
def f76_r11 : List MO := [
(Qa (Qv 40) (Qd (Qn 7)))]
def f76_c11 : MC := .reg false f76_r11
def f76_c12 : MC := (MC.exit 1)
def f76_c13 : MC := MC.skip
def f76_c14 : MC := .cond (Qn 40) f76_c12 f76_c13
def f76_c15 : MC := .seq f76_c11 f76_c14
def f76_c16 : MC := .seq f76_c10 f76_c15
def f76_r17 : List MO := [
(Qa (Qv 41) (Qf 1 false (Qn 1))),
(Qa (Qv 42) (MOp.nck (Qn 41))),
(Qa (Qv 43) (Qg 2 (Qn 42))),
(Qa (Qv 44) (Qf 1 false (Qn 43))),
(Qa (Qv 45) (Qd (Qn 5))),
(Qa (Qv 46) (Qf 1 false (Qn 1))),
(Qa (Qv 47) (MOp.nck (Qn 46))),
(Qa (Qv 48) (Qg 2 (Qn 47))),
(Qa (Qv 49) (Qf 1 false (Qn 48))),
(Qa (Qv 50) (Qk Leaf.b (Qn 49))),
(Qa none (MOp.mupd false [Qt] (Qn 44) (Qn 45) (Qn 50)))]
def f76_c17 : MC := .reg true f76_r17
def f76_r18 : List MO := [
(Qa (Qv 51) (Qd (Qn 0))),
(Qa (Qv 52) (Qd (Qn 5))),
(Qa (Qv 53) (MOp.callv (Qn 51) [(Qn 52)])),
(Qa (Qv 54) (MOp.not (Qn 53)))]
def f76_c18 : MC := .reg false f76_r18
def f76_c19 : MC := (MC.exit 0)
def f76_c20 : MC := MC.skip
def f76_c21 : MC := .cond (Qn 54) f76_c19 f76_c20
def f76_c22 : MC := .seq f76_c18 f76_c21
def f76_r23 : List MO := [
(Qa (Qv 56) (Qf 1 false (Qn 1))),
(Qa (Qv 57) (MOp.nck (Qn 56))),
(Qa (Qv 58) (Qg 0 (Qn 57))),
(Qa (Qv 59) (Qf 2 true (Qn 58))),
(Qa (Qv 60) (Qd (Qn 5))),
(Qa (Qv 61) (Qh 11 [(Qn 59), (Qn 60)])),
(Qa (Qv 55) (Qd (Qn 61))),
(Qa (Qv 62) (Qi (Qn 55) 0)),
(Qa (Qv 63) (Qi (Qn 55) 1)),
(Qa (Qv 8) (Qd (Qn 62))),
(Qa (Qv 9) (Qd (Qn 63)))]
def f76_c23 : MC := .reg false f76_r23
def f76_r24 : List MO := [
(Qa (Qv 64) (Qd (Qn 4))),
(Qa (Qv 65) (Qd (Qn 8))),
(Qa (Qv 66) (MOp.callv (Qn 64) [(Qn 65)]))]
def f76_c24 : MC := .reg false f76_r24
def f76_c25 : MC := .seq f76_c23 f76_c24
def f76_c26 : MC := .seq f76_c22 f76_c25
def f76_c27 : MC := .seq f76_c17 f76_c26
def f76_c28 : MC := .seq f76_c16 f76_c27
def f76_c29 : MC := .seq f76_c9 f76_c28
def f76_c30 : MC := .seq f76_c8 f76_c29
def f76_c31 : MC := .blk 1 f76_c30
def f76_c32 : MC := .seq f76_c7 f76_c31
def f76_c33 : MC := .loop f76_c32
def f76_c34 : MC := .blk 0 f76_c33
def f76_c35 : MC := .seq f76_c2 f76_c34
def f76_c36 : MC := .seq f76_c1 f76_c35
def f76_c37 : MC := .seq f76_c0 f76_c36
def f76_c38 : MC := .scope f76_c37
noncomputable def f76_code : Code := (Go.Proofs.Tryd.f76.body).getD .skip
theorem f76_body : Go.Proofs.Tryd.f76.body = Qv f76_code := by kernel_rfl
theorem f76_tr : trC Go.Proofs.Tryd.prog [15] f76_code = Qv f76_c38 := by kernel_rfl
theorem f76_rs : rsOf Go.Proofs.Tryd.prog Go.Proofs.Tryd.f76.results.toList = Qv [] := by kernel_rfl
theorem f76_nt : Go.Proofs.Tryd.f76.ntmps = 67 := by kernel_rfl
theorem f76_ok : callable Go.Proofs.Tryd.prog 76 = true := by kernel_rfl
theorem f76_in {gp : Heap} {args : List V} {res : V} (h : G ⟨Go.Proofs.Tryd.prog, gp, 0, [], fun r c => r = res ∧ c = [], false⟩ [.code f76_c38, .fin] ⟨args ++ List.replicate (67 - args.length) .un, []⟩) : Does Go.Proofs.Tryd.prog gp 76 args res :=
  does_intro f76_ok Go.Proofs.Tryd.func76 f76_body f76_tr f76_rs (by rw [f76_nt]; exact h)
theorem f76_tri {gp : Heap} {args : List V} {pre : List Ch} {R : V → List Ch → Prop} (h : G ⟨Go.Proofs.Tryd.prog, gp, pre.length, [], R, false⟩ [.code f76_c38, .fin] ⟨args ++ List.replicate (67 - args.length) .un, pre⟩) : Tri Go.Proofs.Tryd.prog gp 76 args pre R :=
  tri_intro Go.Proofs.Tryd.func76 f76_body f76_tr f76_rs (by rw [f76_nt]; exact h)

/-! (*sigillary/reach.walker).nodes$1$1 -/
def f77_r0 : List MO := [
(Qa (Qv 4) (Qd (Qn 0))),
(Qa (Qv 5) (Qk Qt (Qn 4))),
(Qa (Qv 6) (Qe Qt Go.BinOp.sub (Qn 5) (Qo (Qp (Qq (Qr Qu 1)))))),
(Qa (Qv 3) (Qd (Qn 6)))]
def f77_c0 : MC := .reg false f77_r0
def f77_r1 : List MO := [
(Qa (Qv 7) (Qd (Qn 3))),
(Qa (Qv 8) (Qe Qt Go.BinOp.geq (Qn 7) (Qo (Qp (Qq (Qr Qu 0))))))]
def f77_c1 : MC := .reg false f77_r1
def f77_c2 : MC := MC.skip
def f77_c3 : MC := (MC.exit 0)
def f77_c4 : MC := .cond (Qn 8) f77_c2 f77_c3
def f77_c5 : MC := .seq f77_c1 f77_c4
def f77_r6 : List MO := [
(Qa (Qv 11) (Qf 1 false (Qn 1))),
(Qa (Qv 12) (Qd (Qn 0))),
(Qa (Qv 13) (Qd (Qn 3))),
(Qa (Qv 14) (Qj 1 (Qn 12) (Qn 13))),
(Qa (Qv 15) (Qf 1 false (Qn 14))),
(Qa (Qv 16) (MOp.bslice 1 [(Qr Qu 0)] 1 [(0, (Qn 15))])),
(Qa (Qv 17) (MOp.app 1 8 (Qn 11) (Qn 16))),
(Qa none (Ql 1 (Qn 1) (Qn 17)))]
def f77_c6 : MC := .reg true f77_r6
def f77_c7 : MC := .blk 1 f77_c6
def f77_r8 : List MO := [
(Qa (Qv 9) (Qd (Qn 3))),
(Qa (Qv 10) (Qe Qt Go.BinOp.sub (Qn 9) (Qo (Qp (Qq (Qr Qu 1)))))),
(Qa (Qv 3) (Qd (Qn 10)))]
def f77_c8 : MC := .reg false f77_r8
def f77_c9 : MC := .seq f77_c7 f77_c8
def f77_c10 : MC := .seq f77_c5 f77_c9
def f77_c11 : MC := .loop f77_c10
def f77_c12 : MC := .blk 0 f77_c11
def f77_c13 : MC := .seq f77_c0 f77_c12
noncomputable def f77_code : Code := (Go.Proofs.Tryd.f77.body).getD .skip
theorem f77_body : Go.Proofs.Tryd.f77.body = Qv f77_code := by kernel_rfl
theorem f77_tr : trC Go.Proofs.Tryd.prog [] f77_code = Qv f77_c13 := by kernel_rfl
theorem f77_rs : rsOf Go.Proofs.Tryd.prog Go.Proofs.Tryd.f77.results.toList = Qv [] := by kernel_rfl
theorem f77_nt : Go.Proofs.Tryd.f77.ntmps = 18 := by kernel_rfl
theorem f77_ok : callable Go.Proofs.Tryd.prog 77 = true := by kernel_rfl
theorem f77_in {gp : Heap} {args : List V} {res : V} (h : G ⟨Go.Proofs.Tryd.prog, gp, 0, [], fun r c => r = res ∧ c = [], false⟩ [.code f77_c13, .fin] ⟨args ++ List.replicate (18 - args.length) .un, []⟩) : Does Go.Proofs.Tryd.prog gp 77 args res :=
  does_intro f77_ok Go.Proofs.Tryd.func77 f77_body f77_tr f77_rs (by rw [f77_nt]; exact h)
theorem f77_tri {gp : Heap} {args : List V} {pre : List Ch} {R : V → List Ch → Prop} (h : G ⟨Go.Proofs.Tryd.prog, gp, pre.length, [], R, false⟩ [.code f77_c13, .fin] ⟨args ++ List.replicate (18 - args.length) .un, pre⟩) : Tri Go.Proofs.Tryd.prog gp 77 args pre R :=
  tri_intro Go.Proofs.Tryd.func77 f77_body f77_tr f77_rs (by rw [f77_nt]; exact h)

-- f78: no body
-- f79: no body
end Go.Fw.L07
