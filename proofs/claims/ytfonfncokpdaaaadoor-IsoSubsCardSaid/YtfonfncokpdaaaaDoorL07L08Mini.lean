/- Small codes. -/
import Derived.Test.YtfonfncokpdaaaaDoorFd
import Derived.Test.YtfonfncokpdaaaaDoorProg
set_option linter.all false
namespace Go.Fw.L07
open Go Go.Fw
open Go.Fw.MO renaming op → Qa, chk → Qb, opx → Qc
open Go.Fw.MOp renaming mv → Qd, bin → Qe, load → Qf, fad → Qg, call → Qh, ext → Qi, iad → Qj, len → Qk, store → Ql, pick → Qm
open Go.Fw.Opd renaming t → Qn, c → Qo
open Go.Fw.V renaming one → Qp
open Go.Fw.A renaming d → Qq
open Go.Fw.D renaming int → Qr, bool → Qs
open Go.Fw.Leaf renaming i → Qt
open Go.IntKind renaming i64 → Qu
open Option renaming some → Qv
def f22_r0 : List MO := [
(Qa (Qv 2) (MOp.ibox (Qn 0))),
(Qa (Qv 4) (Qd (Qo (Qp (Qq (Qr Qu 0)))))),
(Qa (Qv 5) (Qd (Qo (Qp (Qq (Qs false))))))]
def f22_c0 : MC := .reg false f22_r0
def f22_r1 : List MO := [
(Qa (Qv 14) (Qf 2 true (Qn 2))),
(Qa (Qv 15) (Qh 10 [(Qn 14)])),
(Qa (Qv 13) (Qd (Qn 15))),
(Qa (Qv 16) (Qi (Qn 13) 0)),
(Qa (Qv 17) (Qi (Qn 13) 1)),
(Qa (Qv 6) (Qd (Qn 16))),
(Qa (Qv 7) (Qd (Qn 17)))]
def f22_c1 : MC := .reg false f22_r1
def f22_r2 : List MO := [
(Qa (Qv 18) (Qd (Qn 7))),
(Qa (Qv 19) (Qe Qt Go.BinOp.neq (Qn 18) (Qo (Qp (Qq (Qr Qu 0))))))]
def f22_c2 : MC := .reg false f22_r2
def f22_r3 : List MO := [
(Qa (Qv 4) (Qd (Qo (Qp (Qq (Qr Qu 0)))))),
(Qa (Qv 5) (Qd (Qo (Qp (Qq (Qs false))))))]
def f22_c3 : MC := .reg false f22_r3
def f22_c4 : MC := MC.ret
def f22_c5 : MC := .seq f22_c3 f22_c4
def f22_c6 : MC := MC.skip
def f22_c7 : MC := .cond (Qn 19) f22_c5 f22_c6
def f22_c8 : MC := .seq f22_c2 f22_c7
def f22_c9 : MC := .seq f22_c1 f22_c8
def f22_r10 : List MO := [
(Qa (Qv 20) (Qg 0 (Qn 2))),
(Qa (Qv 21) (Qf 1 false (Qn 20))),
(Qa (Qv 8) (Qd (Qn 21)))]
def f22_c10 : MC := .reg false f22_r10
def f22_r11 : List MO := [
(Qa (Qv 22) (Qd (Qn 1))),
(Qa (Qv 23) (Qk Qt (Qn 22))),
(Qa (Qv 24) (Qd (Qo (Qp (Qq (Qr Qu 0))))))]
def f22_c11 : MC := .reg false f22_r11
def f22_r12 : List MO := [
(Qa (Qv 25) (Qe Qt Go.BinOp.lss (Qn 24) (Qn 23)))]
def f22_c12 : MC := .reg false f22_r12
def f22_c13 : MC := MC.skip
def f22_c14 : MC := (MC.exit 0)
def f22_c15 : MC := .cond (Qn 25) f22_c13 f22_c14
def f22_r16 : List MO := [
(Qa (Qv 26) (Qj 1 (Qn 22) (Qn 24))),
(Qa (Qv 27) (Qf 1 false (Qn 26))),
(Qa (Qv 10) (Qd (Qn 27)))]
def f22_c16 : MC := .reg false f22_r16
def f22_r17 : List MO := [
(Qa (Qv 29) (Qf 2 true (Qn 2))),
(Qa (Qv 30) (Qd (Qn 8))),
(Qa (Qv 31) (Qh 11 [(Qn 29), (Qn 30)])),
(Qa (Qv 28) (Qd (Qn 31))),
(Qa (Qv 32) (Qi (Qn 28) 0)),
(Qa (Qv 33) (Qi (Qn 28) 1)),
(Qa (Qv 11) (Qd (Qn 32))),
(Qa (Qv 12) (Qd (Qn 33)))]
def f22_c17 : MC := .reg false f22_r17
def f22_r18 : List MO := [
(Qa (Qv 34) (Qd (Qn 10))),
(Qa (Qv 35) (Qe Qt Go.BinOp.lss (Qn 34) (Qo (Qp (Qq (Qr Qu 0)))))),
(Qa (Qv 36) (Qd (Qn 35))),
(Qb 36 false (Qv 37)),
(Qa (Qv 37) (Qd (Qn 10))),
(Qb 36 false (Qv 38)),
(Qa (Qv 38) (Qd (Qn 11))),
(Qb 36 false (Qv 39)),
(Qa (Qv 39) (Qk Qt (Qn 38))),
(Qb 36 false (Qv 40)),
(Qa (Qv 40) (Qe Qt Go.BinOp.geq (Qn 37) (Qn 39))),
(Qa (Qv 41) (Qm (Qn 36) (Qo (Qp (Qq (Qs true)))) (Qn 40)))]
def f22_c18 : MC := .reg false f22_r18
def f22_r19 : List MO := [
(Qa (Qv 4) (Qd (Qo (Qp (Qq (Qr Qu 0)))))),
(Qa (Qv 5) (Qd (Qo (Qp (Qq (Qs false))))))]
def f22_c19 : MC := .reg false f22_r19
def f22_c20 : MC := MC.ret
def f22_c21 : MC := .seq f22_c19 f22_c20
def f22_c22 : MC := MC.skip
def f22_c23 : MC := .cond (Qn 41) f22_c21 f22_c22
def f22_c24 : MC := .seq f22_c18 f22_c23
def f22_r25 : List MO := [
(Qa (Qv 42) (Qd (Qn 11))),
(Qa (Qv 43) (Qd (Qn 10))),
(Qa (Qv 44) (Qj 1 (Qn 42) (Qn 43))),
(Qa (Qv 45) (Qf 1 false (Qn 44))),
(Qa (Qv 8) (Qd (Qn 45)))]
def f22_c25 : MC := .reg false f22_r25
def f22_c26 : MC := .seq f22_c24 f22_c25
def f22_c27 : MC := .seq f22_c17 f22_c26
def f22_c28 : MC := .seq f22_c16 f22_c27
def f22_c29 : MC := .blk 1 f22_c28
def f22_r30 : List MO := [
(Qa (Qv 46) (Qe Qt Go.BinOp.add (Qn 24) (Qo (Qp (Qq (Qr Qu 1)))))),
(Qa (Qv 24) (Qd (Qn 46)))]
def f22_c30 : MC := .reg false f22_r30
def f22_c31 : MC := .seq f22_c29 f22_c30
def f22_c32 : MC := .seq f22_c15 f22_c31
def f22_c33 : MC := .seq f22_c12 f22_c32
def f22_c34 : MC := .loop f22_c33
def f22_c35 : MC := .blk 0 f22_c34
def f22_c36 : MC := .seq f22_c11 f22_c35
def f22_r37 : List MO := [
(Qa (Qv 47) (Qd (Qn 8))),
(Qa (Qv 4) (Qd (Qn 47))),
(Qa (Qv 5) (Qd (Qo (Qp (Qq (Qs true))))))]
def f22_c37 : MC := .reg false f22_r37
def f22_c38 : MC := MC.ret
def f22_c39 : MC := .seq f22_c37 f22_c38
def f22_c40 : MC := .seq f22_c36 f22_c39
def f22_c41 : MC := .seq f22_c10 f22_c40
def f22_c42 : MC := .seq f22_c9 f22_c41
def f22_c43 : MC := .seq f22_c0 f22_c42
noncomputable def f22_code : Code := (Go.Proofs.Tryd.f22.body).getD .skip
theorem f22_body : Go.Proofs.Tryd.f22.body = Qv f22_code := by kernel_rfl
theorem f22_tr : trC Go.Proofs.Tryd.prog [2] f22_code = Qv f22_c43 := by kernel_rfl
theorem f22_rs : rsOf Go.Proofs.Tryd.prog Go.Proofs.Tryd.f22.results.toList = Qv [(RV.t 4), (RV.t 5)] := by kernel_rfl
theorem f22_nt : Go.Proofs.Tryd.f22.ntmps = 48 := by kernel_rfl
theorem f22_ok : callable Go.Proofs.Tryd.prog 22 = true := by kernel_rfl
theorem f22_in {gp : Heap} {args : List V} {res : V} (h : G ⟨Go.Proofs.Tryd.prog, gp, 0, [(RV.t 4), (RV.t 5)], fun r c => r = res ∧ c = [], false⟩ [.code f22_c43, .fin] ⟨args ++ List.replicate (48 - args.length) .un, []⟩) : Does Go.Proofs.Tryd.prog gp 22 args res :=
  does_intro f22_ok Go.Proofs.Tryd.func22 f22_body f22_tr f22_rs (by rw [f22_nt]; exact h)
theorem f22_tri {gp : Heap} {args : List V} {pre : List Ch} {R : V → List Ch → Prop} (h : G ⟨Go.Proofs.Tryd.prog, gp, pre.length, [(RV.t 4), (RV.t 5)], R, false⟩ [.code f22_c43, .fin] ⟨args ++ List.replicate (48 - args.length) .un, pre⟩) : Tri Go.Proofs.Tryd.prog gp 22 args pre R :=
  tri_intro Go.Proofs.Tryd.func22 f22_body f22_tr f22_rs (by rw [f22_nt]; exact h)
end Go.Fw.L07
