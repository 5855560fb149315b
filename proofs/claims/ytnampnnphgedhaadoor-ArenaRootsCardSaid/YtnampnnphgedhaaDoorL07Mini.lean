/- Small codes of chapter 7's functions. -/
import Derived.Test.YtnampnnphgedhaaDoorFwY
import Derived.Test.YtnampnnphgedhaaDoorProg
set_option linter.all false
namespace Go.Fw.L07
open Go Go.Fw
open Go.Fw.MO renaming op → Qa, chk → Qb
open Go.Fw.MOp renaming mv → Qc, bin → Qd, load → Qe, fad → Qf, call → Qg
open Go.Fw.Opd renaming t → Qh, c → Qi
open Go.Fw.V renaming one → Qj
open Go.Fw.A renaming d → Qk
open Go.Fw.D renaming int → Ql, bool → Qm
open Go.Fw.Leaf renaming i → Qn
open Go.IntKind renaming i64 → Qo
open Option renaming some → Qp
/-! sigillary/sigillarylaw07.ArenaRoots -/
def f7_r0 : List MO := [
(Qa (Qp 2) (MOp.box (Qh 0))),
(Qa (Qp 4) (Qc (Qi (Qj (Qk (Qm false))))))]
def f7_c0 : MC := .reg false f7_r0
def f7_r1 : List MO := [
(Qa (Qp 10) (Qg 8 [])),
(Qa (Qp 5) (Qc (Qh 10)))]
def f7_c1 : MC := .reg false f7_r1
def f7_r2 : List MO := [
(Qa (Qp 11) (Qe 2 true (Qh 2))),
(Qa (Qp 12) (Qg 9 [(Qh 11)])),
(Qa none (MOp.store 2 (Qh 2) (Qh 12)))]
def f7_c2 : MC := .reg false f7_r2
def f7_r3 : List MO := [
(Qa (Qp 14) (Qe 2 true (Qh 2))),
(Qa (Qp 15) (Qg 10 [(Qh 14)])),
(Qa (Qp 13) (Qc (Qh 15))),
(Qa (Qp 16) (MOp.ext (Qh 13) 0)),
(Qa (Qp 17) (MOp.ext (Qh 13) 1)),
(Qa (Qp 6) (Qc (Qh 16))),
(Qa (Qp 7) (Qc (Qh 17)))]
def f7_c3 : MC := .reg false f7_r3
def f7_r4 : List MO := [
(Qa (Qp 19) (Qc (Qh 1))),
(Qa (Qp 20) (Qf 1 (Qh 2))),
(Qa (Qp 21) (Qe 1 false (Qh 20))),
(Qa (Qp 22) (MOp.build [(Ql Qo 0), (D.sl [])] [(0, (1, (Qh 19))), (1, (1, (Qh 21)))])),
(Qa (Qp 23) (Qg 10 [(Qh 22)])),
(Qa (Qp 18) (Qc (Qh 23))),
(Qa (Qp 24) (MOp.ext (Qh 18) 0)),
(Qa (Qp 25) (MOp.ext (Qh 18) 1)),
(Qa (Qp 8) (Qc (Qh 24))),
(Qa (Qp 9) (Qc (Qh 25)))]
def f7_c4 : MC := .reg false f7_r4
def f7_r5 : List MO := [
(Qa (Qp 26) (Qc (Qh 7))),
(Qa (Qp 27) (Qd Qn Go.BinOp.neq (Qh 26) (Qi (Qj (Qk (Ql Qo 0))))))]
def f7_c5 : MC := .reg false f7_r5
def f7_r6 : List MO := [
(Qa (Qp 28) (Qc (Qh 5))),
(Qa (Qp 4) (Qc (Qh 28)))]
def f7_c6 : MC := .reg false f7_r6
def f7_c7 : MC := MC.ret
def f7_c8 : MC := .seq f7_c6 f7_c7
def f7_c9 : MC := MC.skip
def f7_c10 : MC := .cond (Qh 27) f7_c8 f7_c9
def f7_c11 : MC := .seq f7_c5 f7_c10
def f7_r12 : List MO := [
(Qa (Qp 29) (Qc (Qh 1))),
(Qa (Qp 30) (Qd Qn Go.BinOp.lss (Qh 29) (Qi (Qj (Qk (Ql Qo 0)))))),
(Qa (Qp 31) (Qc (Qh 30))),
(Qb 31 false (Qp 32)),
(Qa (Qp 32) (Qc (Qh 1))),
(Qb 31 false (Qp 33)),
(Qa (Qp 33) (Qf 1 (Qh 2))),
(Qb 31 false (Qp 34)),
(Qa (Qp 34) (Qe 1 false (Qh 33))),
(Qb 31 false (Qp 35)),
(Qa (Qp 35) (MOp.len Qn (Qh 34))),
(Qb 31 false (Qp 36)),
(Qa (Qp 36) (Qd Qn Go.BinOp.geq (Qh 32) (Qh 35))),
(Qa (Qp 37) (MOp.pick (Qh 31) (Qi (Qj (Qk (Qm true)))) (Qh 36)))]
def f7_c12 : MC := .reg false f7_r12
def f7_r13 : List MO := [
(Qa (Qp 38) (Qc (Qh 5))),
(Qa (Qp 39) (Qc (Qh 38))),
(Qb 39 true (Qp 40)),
(Qa (Qp 40) (Qc (Qh 9))),
(Qb 39 true (Qp 41)),
(Qa (Qp 41) (Qd Qn Go.BinOp.eql (Qh 40) (Qi (Qj (Qk (Ql Qo 70)))))),
(Qa (Qp 42) (MOp.pick (Qh 39) (Qh 41) (Qi (Qj (Qk (Qm false)))))),
(Qa (Qp 43) (Qc (Qh 42))),
(Qb 43 true (Qp 44)),
(Qa (Qp 44) (Qc (Qh 8))),
(Qb 43 true (Qp 45)),
(Qa (Qp 45) (Qd Qn Go.BinOp.eql (Qh 44) (Qi (Qj (Qk (Ql Qo (-1))))))),
(Qa (Qp 46) (MOp.pick (Qh 43) (Qh 45) (Qi (Qj (Qk (Qm false)))))),
(Qa (Qp 4) (Qc (Qh 46)))]
def f7_c13 : MC := .reg false f7_r13
def f7_c14 : MC := MC.ret
def f7_c15 : MC := .seq f7_c13 f7_c14
def f7_c16 : MC := MC.skip
def f7_c17 : MC := .cond (Qh 37) f7_c15 f7_c16
def f7_c18 : MC := .seq f7_c12 f7_c17
def f7_r19 : List MO := [
(Qa (Qp 47) (Qc (Qh 5))),
(Qa (Qp 48) (Qc (Qh 47))),
(Qb 48 true (Qp 49)),
(Qa (Qp 49) (Qc (Qh 9))),
(Qb 48 true (Qp 50)),
(Qa (Qp 50) (Qd Qn Go.BinOp.eql (Qh 49) (Qi (Qj (Qk (Ql Qo 0)))))),
(Qa (Qp 51) (MOp.pick (Qh 48) (Qh 50) (Qi (Qj (Qk (Qm false)))))),
(Qa (Qp 52) (Qc (Qh 51))),
(Qb 52 true (Qp 53)),
(Qa (Qp 53) (Qc (Qh 8))),
(Qb 52 true (Qp 54)),
(Qa (Qp 54) (Qd Qn Go.BinOp.eql (Qh 53) (Qi (Qj (Qk (Ql Qo 0)))))),
(Qa (Qp 55) (MOp.pick (Qh 52) (Qh 54) (Qi (Qj (Qk (Qm false)))))),
(Qa (Qp 4) (Qc (Qh 55)))]
def f7_c19 : MC := .reg false f7_r19
def f7_c20 : MC := MC.ret
def f7_c21 : MC := .seq f7_c19 f7_c20
def f7_c22 : MC := .seq f7_c18 f7_c21
def f7_c23 : MC := .seq f7_c11 f7_c22
def f7_c24 : MC := .seq f7_c4 f7_c23
def f7_c25 : MC := .seq f7_c3 f7_c24
def f7_c26 : MC := .seq f7_c2 f7_c25
def f7_c27 : MC := .seq f7_c1 f7_c26
def f7_c28 : MC := .seq f7_c0 f7_c27
noncomputable def f7_code : Code := (Go.Proofs.Tryd.f7.body).getD .skip
theorem f7_body : Go.Proofs.Tryd.f7.body = Qp f7_code := by kernel_rfl
theorem f7_tr : trC Go.Proofs.Tryd.prog [] f7_code = Qp f7_c28 := by kernel_rfl
theorem f7_rs : rsOf Go.Proofs.Tryd.prog Go.Proofs.Tryd.f7.results.toList = Qp [(RV.t 4)] := by kernel_rfl
theorem f7_nt : Go.Proofs.Tryd.f7.ntmps = 56 := by kernel_rfl
theorem f7_ok : callable Go.Proofs.Tryd.prog 7 = true := by kernel_rfl
theorem f7_in {gp : Heap} {args : List V} {res : V} (h : G ⟨Go.Proofs.Tryd.prog, gp, 0, [(RV.t 4)], fun r c => r = res ∧ c = [], false⟩ [.code f7_c28, .fin] ⟨args ++ List.replicate (56 - args.length) .un, []⟩) : Does Go.Proofs.Tryd.prog gp 7 args res :=
  does_intro f7_ok Go.Proofs.Tryd.func7 f7_body f7_tr f7_rs (by rw [f7_nt]; exact h)
theorem f7_tri {gp : Heap} {args : List V} {pre : List Ch} {R : V → List Ch → Prop} (h : G ⟨Go.Proofs.Tryd.prog, gp, pre.length, [(RV.t 4)], R, false⟩ [.code f7_c28, .fin] ⟨args ++ List.replicate (56 - args.length) .un, pre⟩) : Tri Go.Proofs.Tryd.prog gp 7 args pre R :=
  tri_intro Go.Proofs.Tryd.func7 f7_body f7_tr f7_rs (by rw [f7_nt]; exact h)

/-! sigillary/sigillarylaw07.shown -/
def f8_r0 : List MO := [
(Qa (Qp 0) (Qc (Qi (Qj (Qk (Qm false))))))]
def f8_c0 : MC := .reg false f8_r0
def f8_r1 : List MO := [
(Qa (Qp 14) (MOp.build [(Ql Qo 0), (Ql Qo 0), (D.str (ByteArray.mk #[]))] [(0, (1, (Qi (Qj (Qk (Ql Qo 3)))))), (2, (1, (Qi (Qj (Qk (D.str (ByteArray.mk #[98])))))))])),
(Qa (Qp 15) (MOp.build [(Ql Qo 0), (Ql Qo 0), (D.str (ByteArray.mk #[]))] [(0, (1, (Qi (Qj (Qk (Ql Qo 2)))))), (1, (1, (Qi (Qj (Qk (Ql Qo 2))))))])),
(Qa (Qp 16) (MOp.bslice 3 [(Ql Qo 0), (Ql Qo 0), (D.str (ByteArray.mk #[]))] 2 [(0, (Qh 14)), (1, (Qh 15))])),
(Qa (Qp 17) (MOp.bslice 1 [(Ql Qo 0)] 2 [(0, (Qi (Qj (Qk (Ql Qo 0))))), (1, (Qi (Qj (Qk (Ql Qo 1)))))])),
(Qa (Qp 18) (MOp.build [(Ql Qo 0), (Ql Qo 0), (Ql Qo 0), (D.str (ByteArray.mk #[])), (D.sl []), (D.sl [])] [(0, (1, (Qi (Qj (Qk (Ql Qo 2)))))), (4, (1, (Qh 16))), (5, (1, (Qh 17)))])),
(Qa (Qp 19) (MOp.build [(Ql Qo 0), (Ql Qo 0), (D.str (ByteArray.mk #[]))] [(0, (1, (Qi (Qj (Qk (Ql Qo 2)))))), (1, (1, (Qi (Qj (Qk (Ql Qo 5))))))])),
(Qa (Qp 20) (MOp.build [(Ql Qo 0), (Ql Qo 0), (Ql Qo 0), (D.str (ByteArray.mk #[])), (D.sl []), (D.sl [])] [(1, (3, (Qh 19)))])),
(Qa (Qp 21) (MOp.bslice 6 [(Ql Qo 0), (Ql Qo 0), (Ql Qo 0), (D.str (ByteArray.mk #[])), (D.sl []), (D.sl [])] 2 [(0, (Qh 18)), (1, (Qh 20))])),
(Qa (Qp 22) (MOp.build [(Ql Qo 0), (D.sl [])] [(1, (1, (Qh 21)))])),
(Qa (Qp 1) (MOp.alloc [(Ql Qo 0), (D.sl [])])),
(Qa none (MOp.store 2 (Qh 1) (Qh 22)))]
def f8_c1 : MC := .reg false f8_r1
def f8_r2 : List MO := [
(Qa (Qp 24) (Qe 2 true (Qh 1))),
(Qa (Qp 25) (Qg 10 [(Qh 24)])),
(Qa (Qp 23) (Qc (Qh 25))),
(Qa (Qp 26) (MOp.ext (Qh 23) 0)),
(Qa (Qp 27) (MOp.ext (Qh 23) 1)),
(Qa (Qp 2) (Qc (Qh 26))),
(Qa (Qp 3) (Qc (Qh 27)))]
def f8_c2 : MC := .reg false f8_r2
def f8_r3 : List MO := [
(Qa (Qp 29) (Qe 2 true (Qh 1))),
(Qa (Qp 30) (Qg 11 [(Qh 29), (Qi (Qj (Qk (Ql Qo 0))))])),
(Qa (Qp 28) (Qc (Qh 30))),
(Qa (Qp 31) (MOp.ext (Qh 28) 0)),
(Qa (Qp 32) (MOp.ext (Qh 28) 1)),
(Qa (Qp 4) (Qc (Qh 31))),
(Qa (Qp 5) (Qc (Qh 32)))]
def f8_c3 : MC := .reg false f8_r3
def f8_r4 : List MO := [
(Qa (Qp 34) (Qe 2 true (Qh 1))),
(Qa (Qp 35) (Qg 12 [(Qh 34), (Qi (Qj (Qk (Ql Qo 0))))])),
(Qa (Qp 33) (Qc (Qh 35))),
(Qa (Qp 36) (MOp.ext (Qh 33) 0)),
(Qa (Qp 37) (MOp.ext (Qh 33) 1)),
(Qa (Qp 6) (Qc (Qh 36))),
(Qa (Qp 7) (Qc (Qh 37)))]
def f8_c4 : MC := .reg false f8_r4
def f8_r5 : List MO := [
(Qa (Qp 39) (Qe 2 true (Qh 1))),
(Qa (Qp 40) (MOp.build [(Ql Qo 0), (Ql Qo 0), (D.str (ByteArray.mk #[]))] [(0, (1, (Qi (Qj (Qk (Ql Qo 2)))))), (1, (1, (Qi (Qj (Qk (Ql Qo 2))))))])),
(Qa (Qp 41) (Qg 13 [(Qh 39), (Qi (Qj (Qk (Ql Qo 0)))), (Qh 40)])),
(Qa (Qp 38) (Qc (Qh 41))),
(Qa (Qp 42) (MOp.ext (Qh 38) 0)),
(Qa (Qp 43) (MOp.ext (Qh 38) 1)),
(Qa (Qp 8) (Qc (Qh 42))),
(Qa (Qp 9) (Qc (Qh 43)))]
def f8_c5 : MC := .reg false f8_r5
def f8_r6 : List MO := [
(Qa (Qp 45) (MOp.bslice 1 [(Ql Qo 0)] 1 [(0, (Qi (Qj (Qk (Ql Qo 1)))))])),
(Qa (Qp 46) (MOp.build [(Ql Qo 0), (Ql Qo 0), (Ql Qo 0), (D.str (ByteArray.mk #[])), (D.sl []), (D.sl [])] [(0, (1, (Qi (Qj (Qk (Ql Qo 1)))))), (5, (1, (Qh 45)))])),
(Qa (Qp 47) (MOp.bslice 6 [(Ql Qo 0), (Ql Qo 0), (Ql Qo 0), (D.str (ByteArray.mk #[])), (D.sl []), (D.sl [])] 1 [(0, (Qh 46))])),
(Qa (Qp 48) (MOp.build [(Ql Qo 0), (D.sl [])] [(1, (1, (Qh 47)))])),
(Qa (Qp 49) (Qg 10 [(Qh 48)])),
(Qa (Qp 44) (Qc (Qh 49))),
(Qa (Qp 50) (MOp.ext (Qh 44) 0)),
(Qa (Qp 51) (MOp.ext (Qh 44) 1)),
(Qa (Qp 10) (Qc (Qh 50))),
(Qa (Qp 11) (Qc (Qh 51)))]
def f8_c6 : MC := .reg false f8_r6
def f8_r7 : List MO := [
(Qa (Qp 53) (Qe 2 true (Qh 1))),
(Qa (Qp 54) (Qg 11 [(Qh 53), (Qi (Qj (Qk (Ql Qo 2))))])),
(Qa (Qp 52) (Qc (Qh 54))),
(Qa (Qp 55) (MOp.ext (Qh 52) 0)),
(Qa (Qp 56) (MOp.ext (Qh 52) 1)),
(Qa (Qp 12) (Qc (Qh 55))),
(Qa (Qp 13) (Qc (Qh 56)))]
def f8_c7 : MC := .reg false f8_r7
def f8_r8 : List MO := [
(Qa (Qp 57) (Qc (Qh 3))),
(Qa (Qp 58) (Qd Qn Go.BinOp.eql (Qh 57) (Qi (Qj (Qk (Ql Qo 0)))))),
(Qa (Qp 59) (Qc (Qh 58))),
(Qb 59 true (Qp 60)),
(Qa (Qp 60) (Qc (Qh 5))),
(Qb 59 true (Qp 61)),
(Qa (Qp 61) (Qd Qn Go.BinOp.eql (Qh 60) (Qi (Qj (Qk (Ql Qo 0)))))),
(Qa (Qp 62) (MOp.pick (Qh 59) (Qh 61) (Qi (Qj (Qk (Qm false)))))),
(Qa (Qp 63) (Qc (Qh 62))),
(Qb 63 true (Qp 64)),
(Qa (Qp 64) (Qc (Qh 4))),
(Qb 63 true (Qp 65)),
(Qa (Qp 65) (MOp.bslice 1 [(Ql Qo 0)] 2 [(0, (Qi (Qj (Qk (Ql Qo 1))))), (1, (Qi (Qj (Qk (Ql Qo 0)))))])),
(Qb 63 true (Qp 66)),
(Qa (Qp 66) (Qg 15 [(Qh 64), (Qh 65)])),
(Qa (Qp 67) (MOp.pick (Qh 63) (Qh 66) (Qi (Qj (Qk (Qm false)))))),
(Qa (Qp 68) (Qc (Qh 67))),
(Qb 68 true (Qp 69)),
(Qa (Qp 69) (Qc (Qh 7))),
(Qb 68 true (Qp 70)),
(Qa (Qp 70) (Qd Qn Go.BinOp.eql (Qh 69) (Qi (Qj (Qk (Ql Qo 0)))))),
(Qa (Qp 71) (MOp.pick (Qh 68) (Qh 70) (Qi (Qj (Qk (Qm false)))))),
(Qa (Qp 72) (Qc (Qh 71))),
(Qb 72 true (Qp 73)),
(Qa (Qp 73) (Qc (Qh 6))),
(Qb 72 true (Qp 74)),
(Qa (Qp 74) (MOp.len Qn (Qh 73))),
(Qb 72 true (Qp 75)),
(Qa (Qp 75) (Qd Qn Go.BinOp.eql (Qh 74) (Qi (Qj (Qk (Ql Qo 2)))))),
(Qa (Qp 76) (MOp.pick (Qh 72) (Qh 75) (Qi (Qj (Qk (Qm false)))))),
(Qa (Qp 77) (Qc (Qh 76))),
(Qb 77 true (Qp 78)),
(Qa (Qp 78) (Qc (Qh 6))),
(Qb 77 true (Qp 79)),
(Qa (Qp 79) (MOp.iad 3 (Qh 78) (Qi (Qj (Qk (Ql Qo 0)))))),
(Qb 77 true (Qp 80)),
(Qa (Qp 80) (Qf 0 (Qh 79))),
(Qb 77 true (Qp 81)),
(Qa (Qp 81) (Qe 1 false (Qh 80))),
(Qb 77 true (Qp 82)),
(Qa (Qp 82) (Qd Qn Go.BinOp.eql (Qh 81) (Qi (Qj (Qk (Ql Qo 2)))))),
(Qa (Qp 83) (MOp.pick (Qh 77) (Qh 82) (Qi (Qj (Qk (Qm false)))))),
(Qa (Qp 84) (Qc (Qh 83))),
(Qb 84 true (Qp 85)),
(Qa (Qp 85) (Qc (Qh 8))),
(Qb 84 true (Qp 86)),
(Qa (Qp 86) (Qd Qn Go.BinOp.eql (Qh 85) (Qi (Qj (Qk (Ql Qo 1)))))),
(Qa (Qp 87) (MOp.pick (Qh 84) (Qh 86) (Qi (Qj (Qk (Qm false)))))),
(Qa (Qp 88) (Qc (Qh 87))),
(Qb 88 true (Qp 89)),
(Qa (Qp 89) (Qc (Qh 9))),
(Qa (Qp 90) (MOp.pick (Qh 88) (Qh 89) (Qi (Qj (Qk (Qm false)))))),
(Qa (Qp 91) (Qc (Qh 90))),
(Qb 91 true (Qp 92)),
(Qa (Qp 92) (Qc (Qh 10))),
(Qb 91 true (Qp 93)),
(Qa (Qp 93) (Qd Qn Go.BinOp.eql (Qh 92) (Qi (Qj (Qk (Ql Qo 0)))))),
(Qa (Qp 94) (MOp.pick (Qh 91) (Qh 93) (Qi (Qj (Qk (Qm false)))))),
(Qa (Qp 95) (Qc (Qh 94))),
(Qb 95 true (Qp 96)),
(Qa (Qp 96) (Qc (Qh 11))),
(Qb 95 true (Qp 97)),
(Qa (Qp 97) (Qd Qn Go.BinOp.eql (Qh 96) (Qi (Qj (Qk (Ql Qo 70)))))),
(Qa (Qp 98) (MOp.pick (Qh 95) (Qh 97) (Qi (Qj (Qk (Qm false)))))),
(Qa (Qp 99) (Qc (Qh 98))),
(Qb 99 true (Qp 100)),
(Qa (Qp 100) (Qc (Qh 13))),
(Qb 99 true (Qp 101)),
(Qa (Qp 101) (Qd Qn Go.BinOp.eql (Qh 100) (Qi (Qj (Qk (Ql Qo 2)))))),
(Qa (Qp 102) (MOp.pick (Qh 99) (Qh 101) (Qi (Qj (Qk (Qm false)))))),
(Qa (Qp 103) (Qc (Qh 102))),
(Qb 103 true (Qp 104)),
(Qa (Qp 104) (Qe 2 true (Qh 1))),
(Qb 103 true (Qp 105)),
(Qa (Qp 105) (Qe 2 true (Qh 1))),
(Qb 103 true (Qp 106)),
(Qa (Qp 106) (Qg 18 [(Qh 104), (Qh 105)])),
(Qa (Qp 107) (MOp.pick (Qh 103) (Qh 106) (Qi (Qj (Qk (Qm false)))))),
(Qa (Qp 0) (Qc (Qh 107)))]
def f8_c8 : MC := .reg false f8_r8
def f8_c9 : MC := MC.ret
def f8_c10 : MC := .seq f8_c8 f8_c9
def f8_c11 : MC := .seq f8_c7 f8_c10
def f8_c12 : MC := .seq f8_c6 f8_c11
def f8_c13 : MC := .seq f8_c5 f8_c12
def f8_c14 : MC := .seq f8_c4 f8_c13
def f8_c15 : MC := .seq f8_c3 f8_c14
def f8_c16 : MC := .seq f8_c2 f8_c15
def f8_c17 : MC := .seq f8_c1 f8_c16
def f8_c18 : MC := .seq f8_c0 f8_c17
noncomputable def f8_code : Code := (Go.Proofs.Tryd.f8.body).getD .skip
theorem f8_body : Go.Proofs.Tryd.f8.body = Qp f8_code := by kernel_rfl
theorem f8_tr : trC Go.Proofs.Tryd.prog [] f8_code = Qp f8_c18 := by kernel_rfl
theorem f8_rs : rsOf Go.Proofs.Tryd.prog Go.Proofs.Tryd.f8.results.toList = Qp [(RV.t 0)] := by kernel_rfl
theorem f8_nt : Go.Proofs.Tryd.f8.ntmps = 108 := by kernel_rfl
theorem f8_ok : callable Go.Proofs.Tryd.prog 8 = true := by kernel_rfl
theorem f8_in {gp : Heap} {args : List V} {res : V} (h : G ⟨Go.Proofs.Tryd.prog, gp, 0, [(RV.t 0)], fun r c => r = res ∧ c = [], false⟩ [.code f8_c18, .fin] ⟨args ++ List.replicate (108 - args.length) .un, []⟩) : Does Go.Proofs.Tryd.prog gp 8 args res :=
  does_intro f8_ok Go.Proofs.Tryd.func8 f8_body f8_tr f8_rs (by rw [f8_nt]; exact h)
theorem f8_tri {gp : Heap} {args : List V} {pre : List Ch} {R : V → List Ch → Prop} (h : G ⟨Go.Proofs.Tryd.prog, gp, pre.length, [(RV.t 0)], R, false⟩ [.code f8_c18, .fin] ⟨args ++ List.replicate (108 - args.length) .un, pre⟩) : Tri Go.Proofs.Tryd.prog gp 8 args pre R :=
  tri_intro Go.Proofs.Tryd.func8 f8_body f8_tr f8_rs (by rw [f8_nt]; exact h)

/-! sigillary/sigillarylaw07.Cut -/
def f9_r0 : List MO := [
(Qa (Qp 1) (MOp.ibox (Qh 0))),
(Qa (Qp 2) (MOp.alloc [(Ql Qo 0), (D.sl [])]))]
def f9_c0 : MC := .reg false f9_r0
def f9_r1 : List MO := [
(Qa (Qp 9) (Qf 0 (Qh 1))),
(Qa (Qp 10) (Qe 1 false (Qh 9))),
(Qa (Qp 11) (MOp.build [(Ql Qo 0), (D.sl [])] [(0, (1, (Qh 10)))])),
(Qa (Qp 3) (MOp.alloc [(Ql Qo 0), (D.sl [])])),
(Qa none (MOp.store 2 (Qh 3) (Qh 11)))]
def f9_c1 : MC := .reg false f9_r1
def f9_r2 : List MO := [
(Qa (Qp 4) (Qc (Qi (Qj (Qk (Ql Qo 0))))))]
def f9_c2 : MC := .reg false f9_r2
def f9_r3 : List MO := [
(Qa (Qp 12) (Qc (Qh 4))),
(Qa (Qp 13) (Qf 1 (Qh 1))),
(Qa (Qp 14) (Qe 1 false (Qh 13))),
(Qa (Qp 15) (MOp.len Qn (Qh 14))),
(Qa (Qp 16) (Qd Qn Go.BinOp.lss (Qh 12) (Qh 15))),
(Qa (Qp 17) (Qc (Qh 16))),
(Qb 17 true (Qp 18)),
(Qa (Qp 18) (Qc (Qh 4))),
(Qb 17 true (Qp 19)),
(Qa (Qp 19) (Qd Qn Go.BinOp.lss (Qh 18) (Qi (Qj (Qk (Ql Qo 201)))))),
(Qa (Qp 20) (MOp.pick (Qh 17) (Qh 19) (Qi (Qj (Qk (Qm false))))))]
def f9_c3 : MC := .reg false f9_r3
def f9_c4 : MC := MC.skip
def f9_c5 : MC := (MC.exit 0)
def f9_c6 : MC := .cond (Qh 20) f9_c4 f9_c5
def f9_c7 : MC := .seq f9_c3 f9_c6
def f9_r8 : List MO := [
(Qa (Qp 23) (Qf 1 (Qh 1))),
(Qa (Qp 24) (Qe 1 false (Qh 23))),
(Qa (Qp 25) (Qc (Qh 4))),
(Qa (Qp 26) (MOp.iad 6 (Qh 24) (Qh 25))),
(Qa (Qp 27) (Qe 6 true (Qh 26))),
(Qa (Qp 5) (MOp.alloc [(Ql Qo 0), (Ql Qo 0), (Ql Qo 0), (D.str (ByteArray.mk #[])), (D.sl []), (D.sl [])])),
(Qa none (MOp.store 6 (Qh 5) (Qh 27)))]
def f9_c8 : MC := .reg false f9_r8
def f9_r9 : List MO := [
(Qa (Qp 28) (Qf 0 (Qh 5))),
(Qa (Qp 29) (Qe 1 false (Qh 28))),
(Qa (Qp 30) (Qf 1 (Qh 5))),
(Qa (Qp 31) (Qe 3 true (Qh 30))),
(Qa (Qp 32) (Qg 17 [(Qh 31)])),
(Qa (Qp 33) (MOp.build [(Ql Qo 0), (Ql Qo 0), (Ql Qo 0), (D.str (ByteArray.mk #[])), (D.sl []), (D.sl [])] [(0, (1, (Qh 29))), (1, (3, (Qh 32)))])),
(Qa (Qp 6) (MOp.alloc [(Ql Qo 0), (Ql Qo 0), (Ql Qo 0), (D.str (ByteArray.mk #[])), (D.sl []), (D.sl [])])),
(Qa none (MOp.store 6 (Qh 6) (Qh 33)))]
def f9_c9 : MC := .reg true f9_r9
def f9_r10 : List MO := [
(Qa (Qp 7) (Qc (Qi (Qj (Qk (Ql Qo 0))))))]
def f9_c10 : MC := .reg false f9_r10
def f9_r11 : List MO := [
(Qa (Qp 34) (Qc (Qh 7))),
(Qa (Qp 35) (Qf 4 (Qh 5))),
(Qa (Qp 36) (Qe 1 false (Qh 35))),
(Qa (Qp 37) (MOp.len Qn (Qh 36))),
(Qa (Qp 38) (Qd Qn Go.BinOp.lss (Qh 34) (Qh 37))),
(Qa (Qp 39) (Qc (Qh 38))),
(Qb 39 true (Qp 40)),
(Qa (Qp 40) (Qc (Qh 7))),
(Qb 39 true (Qp 41)),
(Qa (Qp 41) (Qd Qn Go.BinOp.lss (Qh 40) (Qi (Qj (Qk (Ql Qo 12)))))),
(Qa (Qp 42) (MOp.pick (Qh 39) (Qh 41) (Qi (Qj (Qk (Qm false))))))]
def f9_c11 : MC := .reg false f9_r11
def f9_c12 : MC := MC.skip
def f9_c13 : MC := (MC.exit 2)
def f9_c14 : MC := .cond (Qh 42) f9_c12 f9_c13
def f9_c15 : MC := .seq f9_c11 f9_c14
def f9_r16 : List MO := [
(Qa (Qp 45) (Qf 4 (Qh 6))),
(Qa (Qp 46) (Qe 1 false (Qh 45))),
(Qa (Qp 47) (Qf 4 (Qh 5))),
(Qa (Qp 48) (Qe 1 false (Qh 47))),
(Qa (Qp 49) (Qc (Qh 7))),
(Qa (Qp 50) (MOp.iad 3 (Qh 48) (Qh 49))),
(Qa (Qp 51) (Qe 3 true (Qh 50))),
(Qa (Qp 52) (Qg 17 [(Qh 51)])),
(Qa (Qp 53) (MOp.bslice 3 [(Ql Qo 0), (Ql Qo 0), (D.str (ByteArray.mk #[]))] 1 [(0, (Qh 52))])),
(Qa (Qp 54) (MOp.app 3 32 (Qh 46) (Qh 53))),
(Qa (Qp 55) (Qf 4 (Qh 6))),
(Qa none (MOp.store 1 (Qh 55) (Qh 54)))]
def f9_c16 : MC := .reg true f9_r16
def f9_c17 : MC := .blk 3 f9_c16
def f9_r18 : List MO := [
(Qa (Qp 43) (Qc (Qh 7))),
(Qa (Qp 44) (Qd Qn Go.BinOp.add (Qh 43) (Qi (Qj (Qk (Ql Qo 1)))))),
(Qa (Qp 7) (Qc (Qh 44)))]
def f9_c18 : MC := .reg false f9_r18
def f9_c19 : MC := .seq f9_c17 f9_c18
def f9_c20 : MC := .seq f9_c15 f9_c19
def f9_c21 : MC := .loop f9_c20
def f9_c22 : MC := .blk 2 f9_c21
def f9_c23 : MC := .seq f9_c10 f9_c22
def f9_r24 : List MO := [
(Qa (Qp 8) (Qc (Qi (Qj (Qk (Ql Qo 0))))))]
def f9_c24 : MC := .reg false f9_r24
def f9_r25 : List MO := [
(Qa (Qp 56) (Qc (Qh 8))),
(Qa (Qp 57) (Qf 5 (Qh 5))),
(Qa (Qp 58) (Qe 1 false (Qh 57))),
(Qa (Qp 59) (MOp.len Qn (Qh 58))),
(Qa (Qp 60) (Qd Qn Go.BinOp.lss (Qh 56) (Qh 59))),
(Qa (Qp 61) (Qc (Qh 60))),
(Qb 61 true (Qp 62)),
(Qa (Qp 62) (Qc (Qh 8))),
(Qb 61 true (Qp 63)),
(Qa (Qp 63) (Qd Qn Go.BinOp.lss (Qh 62) (Qi (Qj (Qk (Ql Qo 12)))))),
(Qa (Qp 64) (MOp.pick (Qh 61) (Qh 63) (Qi (Qj (Qk (Qm false))))))]
def f9_c25 : MC := .reg false f9_r25
def f9_c26 : MC := MC.skip
def f9_c27 : MC := (MC.exit 4)
def f9_c28 : MC := .cond (Qh 64) f9_c26 f9_c27
def f9_c29 : MC := .seq f9_c25 f9_c28
def f9_r30 : List MO := [
(Qa (Qp 67) (Qf 5 (Qh 6))),
(Qa (Qp 68) (Qe 1 false (Qh 67))),
(Qa (Qp 69) (Qf 5 (Qh 5))),
(Qa (Qp 70) (Qe 1 false (Qh 69))),
(Qa (Qp 71) (Qc (Qh 8))),
(Qa (Qp 72) (MOp.iad 1 (Qh 70) (Qh 71))),
(Qa (Qp 73) (Qe 1 false (Qh 72))),
(Qa (Qp 74) (MOp.bslice 1 [(Ql Qo 0)] 1 [(0, (Qh 73))])),
(Qa (Qp 75) (MOp.app 1 8 (Qh 68) (Qh 74))),
(Qa (Qp 76) (Qf 5 (Qh 6))),
(Qa none (MOp.store 1 (Qh 76) (Qh 75)))]
def f9_c30 : MC := .reg true f9_r30
def f9_c31 : MC := .blk 5 f9_c30
def f9_r32 : List MO := [
(Qa (Qp 65) (Qc (Qh 8))),
(Qa (Qp 66) (Qd Qn Go.BinOp.add (Qh 65) (Qi (Qj (Qk (Ql Qo 1)))))),
(Qa (Qp 8) (Qc (Qh 66)))]
def f9_c32 : MC := .reg false f9_r32
def f9_c33 : MC := .seq f9_c31 f9_c32
def f9_c34 : MC := .seq f9_c29 f9_c33
def f9_c35 : MC := .loop f9_c34
def f9_c36 : MC := .blk 4 f9_c35
def f9_c37 : MC := .seq f9_c24 f9_c36
def f9_r38 : List MO := [
(Qa (Qp 77) (Qf 1 (Qh 3))),
(Qa (Qp 78) (Qe 1 false (Qh 77))),
(Qa (Qp 79) (Qe 6 true (Qh 6))),
(Qa (Qp 80) (MOp.bslice 6 [(Ql Qo 0), (Ql Qo 0), (Ql Qo 0), (D.str (ByteArray.mk #[])), (D.sl []), (D.sl [])] 1 [(0, (Qh 79))])),
(Qa (Qp 81) (MOp.app 6 88 (Qh 78) (Qh 80))),
(Qa (Qp 82) (Qf 1 (Qh 3))),
(Qa none (MOp.store 1 (Qh 82) (Qh 81)))]
def f9_c38 : MC := .reg false f9_r38
def f9_c39 : MC := .seq f9_c37 f9_c38
def f9_c40 : MC := .seq f9_c23 f9_c39
def f9_c41 : MC := .seq f9_c9 f9_c40
def f9_c42 : MC := .seq f9_c8 f9_c41
def f9_c43 : MC := .blk 1 f9_c42
def f9_r44 : List MO := [
(Qa (Qp 21) (Qc (Qh 4))),
(Qa (Qp 22) (Qd Qn Go.BinOp.add (Qh 21) (Qi (Qj (Qk (Ql Qo 1)))))),
(Qa (Qp 4) (Qc (Qh 22)))]
def f9_c44 : MC := .reg false f9_r44
def f9_c45 : MC := .seq f9_c43 f9_c44
def f9_c46 : MC := .seq f9_c7 f9_c45
def f9_c47 : MC := .loop f9_c46
def f9_c48 : MC := .blk 0 f9_c47
def f9_c49 : MC := .seq f9_c2 f9_c48
def f9_r50 : List MO := [
(Qa (Qp 83) (Qe 2 true (Qh 3))),
(Qa none (MOp.store 2 (Qh 2) (Qh 83)))]
def f9_c50 : MC := .reg false f9_r50
def f9_c51 : MC := MC.ret
def f9_c52 : MC := .seq f9_c50 f9_c51
def f9_c53 : MC := .seq f9_c49 f9_c52
def f9_c54 : MC := .seq f9_c1 f9_c53
def f9_c55 : MC := .seq f9_c0 f9_c54
noncomputable def f9_code : Code := (Go.Proofs.Tryd.f9.body).getD .skip
theorem f9_body : Go.Proofs.Tryd.f9.body = Qp f9_code := by kernel_rfl
theorem f9_tr : trC Go.Proofs.Tryd.prog [1] f9_code = Qp f9_c55 := by kernel_rfl
theorem f9_rs : rsOf Go.Proofs.Tryd.prog Go.Proofs.Tryd.f9.results.toList = Qp [(RV.cell 2 2 true)] := by kernel_rfl
theorem f9_nt : Go.Proofs.Tryd.f9.ntmps = 84 := by kernel_rfl
theorem f9_ok : callable Go.Proofs.Tryd.prog 9 = true := by kernel_rfl
theorem f9_in {gp : Heap} {args : List V} {res : V} (h : G ⟨Go.Proofs.Tryd.prog, gp, 0, [(RV.cell 2 2 true)], fun r c => r = res ∧ c = [], false⟩ [.code f9_c55, .fin] ⟨args ++ List.replicate (84 - args.length) .un, []⟩) : Does Go.Proofs.Tryd.prog gp 9 args res :=
  does_intro f9_ok Go.Proofs.Tryd.func9 f9_body f9_tr f9_rs (by rw [f9_nt]; exact h)
theorem f9_tri {gp : Heap} {args : List V} {pre : List Ch} {R : V → List Ch → Prop} (h : G ⟨Go.Proofs.Tryd.prog, gp, pre.length, [(RV.cell 2 2 true)], R, false⟩ [.code f9_c55, .fin] ⟨args ++ List.replicate (84 - args.length) .un, pre⟩) : Tri Go.Proofs.Tryd.prog gp 9 args pre R :=
  tri_intro Go.Proofs.Tryd.func9 f9_body f9_tr f9_rs (by rw [f9_nt]; exact h)

/-! sigillary/arena.Check -/
def f10_r0 : List MO := [
(Qa (Qp 1) (MOp.ibox (Qh 0))),
(Qa (Qp 2) (Qc (Qi (Qj (Qk (Ql Qo 0)))))),
(Qa (Qp 3) (Qc (Qi (Qj (Qk (Ql Qo 0))))))]
def f10_c0 : MC := .reg false f10_r0
def f10_r1 : List MO := [
(Qa (Qp 4) (Qe 2 true (Qh 1))),
(Qa (Qp 5) (Qg 20 [(Qh 4)])),
(Qa (Qp 6) (Qg 19 [(Qh 5)])),
(Qa (Qp 7) (MOp.ext (Qh 6) 0)),
(Qa (Qp 8) (MOp.ext (Qh 6) 1)),
(Qa (Qp 2) (Qc (Qh 7))),
(Qa (Qp 3) (Qc (Qh 8)))]
def f10_c1 : MC := .reg false f10_r1
def f10_c2 : MC := MC.ret
def f10_c3 : MC := .seq f10_c1 f10_c2
def f10_c4 : MC := .seq f10_c0 f10_c3
noncomputable def f10_code : Code := (Go.Proofs.Tryd.f10.body).getD .skip
theorem f10_body : Go.Proofs.Tryd.f10.body = Qp f10_code := by kernel_rfl
theorem f10_tr : trC Go.Proofs.Tryd.prog [1] f10_code = Qp f10_c4 := by kernel_rfl
theorem f10_rs : rsOf Go.Proofs.Tryd.prog Go.Proofs.Tryd.f10.results.toList = Qp [(RV.t 2), (RV.t 3)] := by kernel_rfl
theorem f10_nt : Go.Proofs.Tryd.f10.ntmps = 9 := by kernel_rfl
theorem f10_ok : callable Go.Proofs.Tryd.prog 10 = true := by kernel_rfl
theorem f10_in {gp : Heap} {args : List V} {res : V} (h : G ⟨Go.Proofs.Tryd.prog, gp, 0, [(RV.t 2), (RV.t 3)], fun r c => r = res ∧ c = [], false⟩ [.code f10_c4, .fin] ⟨args ++ List.replicate (9 - args.length) .un, []⟩) : Does Go.Proofs.Tryd.prog gp 10 args res :=
  does_intro f10_ok Go.Proofs.Tryd.func10 f10_body f10_tr f10_rs (by rw [f10_nt]; exact h)
theorem f10_tri {gp : Heap} {args : List V} {pre : List Ch} {R : V → List Ch → Prop} (h : G ⟨Go.Proofs.Tryd.prog, gp, pre.length, [(RV.t 2), (RV.t 3)], R, false⟩ [.code f10_c4, .fin] ⟨args ++ List.replicate (9 - args.length) .un, pre⟩) : Tri Go.Proofs.Tryd.prog gp 10 args pre R :=
  tri_intro Go.Proofs.Tryd.func10 f10_body f10_tr f10_rs (by rw [f10_nt]; exact h)

/-! sigillary/arena.Kids -/
def f11_r0 : List MO := [
(Qa (Qp 2) (MOp.ibox (Qh 0))),
(Qa (Qp 4) (Qc (Qi (Qj A.nil)))),
(Qa (Qp 5) (Qc (Qi (Qj (Qk (Ql Qo 0))))))]
def f11_c0 : MC := .reg false f11_r0
def f11_r1 : List MO := [
(Qa (Qp 12) (Qe 2 true (Qh 2))),
(Qa (Qp 13) (Qc (Qh 1))),
(Qa (Qp 14) (Qg 21 [(Qh 12), (Qh 13)])),
(Qa (Qp 11) (Qc (Qh 14))),
(Qa (Qp 15) (MOp.ext (Qh 11) 0)),
(Qa (Qp 16) (MOp.ext (Qh 11) 1)),
(Qa (Qp 6) (MOp.alloc [(Ql Qo 0), (Ql Qo 0), (Ql Qo 0), (D.str (ByteArray.mk #[])), (D.sl []), (D.sl []), (Ql Qo 0)])),
(Qa none (MOp.store 7 (Qh 6) (Qh 15))),
(Qa (Qp 7) (Qc (Qh 16)))]
def f11_c1 : MC := .reg false f11_r1
def f11_r2 : List MO := [
(Qa (Qp 17) (Qc (Qh 7))),
(Qa (Qp 18) (Qd Qn Go.BinOp.eql (Qh 17) (Qi (Qj (Qk (Ql Qo 0)))))),
(Qa (Qp 19) (Qc (Qh 18))),
(Qb 19 true (Qp 20)),
(Qa (Qp 20) (Qf 0 (Qh 6))),
(Qb 19 true (Qp 21)),
(Qa (Qp 21) (Qf 0 (Qh 20))),
(Qb 19 true (Qp 22)),
(Qa (Qp 22) (Qe 1 false (Qh 21))),
(Qb 19 true (Qp 23)),
(Qa (Qp 23) (Qd Qn Go.BinOp.eql (Qh 22) (Qi (Qj (Qk (Ql Qo 1)))))),
(Qa (Qp 24) (MOp.pick (Qh 19) (Qh 23) (Qi (Qj (Qk (Qm false))))))]
def f11_c2 : MC := .reg false f11_r2
def f11_r3 : List MO := [
(Qa (Qp 25) (Qf 0 (Qh 6))),
(Qa (Qp 26) (Qf 5 (Qh 25))),
(Qa (Qp 27) (Qe 1 false (Qh 26))),
(Qa (Qp 28) (Qg 22 [(Qh 27)])),
(Qa (Qp 29) (Qc (Qh 7))),
(Qa (Qp 4) (Qc (Qh 28))),
(Qa (Qp 5) (Qc (Qh 29)))]
def f11_c3 : MC := .reg false f11_r3
def f11_c4 : MC := MC.ret
def f11_c5 : MC := .seq f11_c3 f11_c4
def f11_c6 : MC := MC.skip
def f11_c7 : MC := .cond (Qh 24) f11_c5 f11_c6
def f11_c8 : MC := .seq f11_c2 f11_c7
def f11_r9 : List MO := [
(Qa (Qp 8) (Qc (Qi (Qj A.nil))))]
def f11_c9 : MC := .reg false f11_r9
def f11_r10 : List MO := [
(Qa (Qp 30) (Qe 7 true (Qh 6))),
(Qa (Qp 31) (Qg 23 [(Qh 30)])),
(Qa (Qp 32) (MOp.len Qn (Qh 31))),
(Qa (Qp 33) (Qc (Qi (Qj (Qk (Ql Qo 0))))))]
def f11_c10 : MC := .reg false f11_r10
def f11_r11 : List MO := [
(Qa (Qp 34) (Qd Qn Go.BinOp.lss (Qh 33) (Qh 32)))]
def f11_c11 : MC := .reg false f11_r11
def f11_c12 : MC := MC.skip
def f11_c13 : MC := (MC.exit 0)
def f11_c14 : MC := .cond (Qh 34) f11_c12 f11_c13
def f11_r15 : List MO := [
(Qa (Qp 35) (MOp.iad 4 (Qh 31) (Qh 33))),
(Qa (Qp 36) (Qe 4 true (Qh 35))),
(Qa (Qp 10) (MOp.alloc [(Ql Qo 0), (Ql Qo 0), (D.str (ByteArray.mk #[])), (Ql Qo 0)])),
(Qa none (MOp.store 4 (Qh 10) (Qh 36)))]
def f11_c15 : MC := .reg false f11_r15
def f11_r16 : List MO := [
(Qa (Qp 37) (Qc (Qh 8))),
(Qa (Qp 38) (Qf 3 (Qh 10))),
(Qa (Qp 39) (Qe 1 false (Qh 38))),
(Qa (Qp 40) (MOp.bslice 1 [(Ql Qo 0)] 1 [(0, (Qh 39))])),
(Qa (Qp 41) (MOp.app 1 8 (Qh 37) (Qh 40))),
(Qa (Qp 8) (Qc (Qh 41)))]
def f11_c16 : MC := .reg false f11_r16
def f11_c17 : MC := .seq f11_c15 f11_c16
def f11_c18 : MC := .blk 1 f11_c17
def f11_r19 : List MO := [
(Qa (Qp 42) (Qd Qn Go.BinOp.add (Qh 33) (Qi (Qj (Qk (Ql Qo 1)))))),
(Qa (Qp 33) (Qc (Qh 42)))]
def f11_c19 : MC := .reg false f11_r19
def f11_c20 : MC := .seq f11_c18 f11_c19
def f11_c21 : MC := .seq f11_c14 f11_c20
def f11_c22 : MC := .seq f11_c11 f11_c21
def f11_c23 : MC := .loop f11_c22
def f11_c24 : MC := .blk 0 f11_c23
def f11_c25 : MC := .seq f11_c10 f11_c24
def f11_r26 : List MO := [
(Qa (Qp 43) (Qc (Qh 8))),
(Qa (Qp 44) (Qc (Qh 7))),
(Qa (Qp 4) (Qc (Qh 43))),
(Qa (Qp 5) (Qc (Qh 44)))]
def f11_c26 : MC := .reg false f11_r26
def f11_c27 : MC := MC.ret
def f11_c28 : MC := .seq f11_c26 f11_c27
def f11_c29 : MC := .seq f11_c25 f11_c28
def f11_c30 : MC := .seq f11_c9 f11_c29
def f11_c31 : MC := .seq f11_c8 f11_c30
def f11_c32 : MC := .seq f11_c1 f11_c31
def f11_c33 : MC := .seq f11_c0 f11_c32
noncomputable def f11_code : Code := (Go.Proofs.Tryd.f11.body).getD .skip
theorem f11_body : Go.Proofs.Tryd.f11.body = Qp f11_code := by kernel_rfl
theorem f11_tr : trC Go.Proofs.Tryd.prog [2] f11_code = Qp f11_c33 := by kernel_rfl
theorem f11_rs : rsOf Go.Proofs.Tryd.prog Go.Proofs.Tryd.f11.results.toList = Qp [(RV.t 4), (RV.t 5)] := by kernel_rfl
theorem f11_nt : Go.Proofs.Tryd.f11.ntmps = 45 := by kernel_rfl
theorem f11_ok : callable Go.Proofs.Tryd.prog 11 = true := by kernel_rfl
theorem f11_in {gp : Heap} {args : List V} {res : V} (h : G ⟨Go.Proofs.Tryd.prog, gp, 0, [(RV.t 4), (RV.t 5)], fun r c => r = res ∧ c = [], false⟩ [.code f11_c33, .fin] ⟨args ++ List.replicate (45 - args.length) .un, []⟩) : Does Go.Proofs.Tryd.prog gp 11 args res :=
  does_intro f11_ok Go.Proofs.Tryd.func11 f11_body f11_tr f11_rs (by rw [f11_nt]; exact h)
theorem f11_tri {gp : Heap} {args : List V} {pre : List Ch} {R : V → List Ch → Prop} (h : G ⟨Go.Proofs.Tryd.prog, gp, pre.length, [(RV.t 4), (RV.t 5)], R, false⟩ [.code f11_c33, .fin] ⟨args ++ List.replicate (45 - args.length) .un, pre⟩) : Tri Go.Proofs.Tryd.prog gp 11 args pre R :=
  tri_intro Go.Proofs.Tryd.func11 f11_body f11_tr f11_rs (by rw [f11_nt]; exact h)

/-! sigillary/arena.Keys -/
def f12_r0 : List MO := [
(Qa (Qp 2) (MOp.ibox (Qh 0))),
(Qa (Qp 4) (Qc (Qi (Qj A.nil)))),
(Qa (Qp 5) (Qc (Qi (Qj (Qk (Ql Qo 0))))))]
def f12_c0 : MC := .reg false f12_r0
def f12_r1 : List MO := [
(Qa (Qp 12) (Qe 2 true (Qh 2))),
(Qa (Qp 13) (Qc (Qh 1))),
(Qa (Qp 14) (Qg 21 [(Qh 12), (Qh 13)])),
(Qa (Qp 11) (Qc (Qh 14))),
(Qa (Qp 15) (MOp.ext (Qh 11) 0)),
(Qa (Qp 16) (MOp.ext (Qh 11) 1)),
(Qa (Qp 6) (MOp.alloc [(Ql Qo 0), (Ql Qo 0), (Ql Qo 0), (D.str (ByteArray.mk #[])), (D.sl []), (D.sl []), (Ql Qo 0)])),
(Qa none (MOp.store 7 (Qh 6) (Qh 15))),
(Qa (Qp 7) (Qc (Qh 16)))]
def f12_c1 : MC := .reg false f12_r1
def f12_r2 : List MO := [
(Qa (Qp 8) (Qc (Qi (Qj A.nil))))]
def f12_c2 : MC := .reg false f12_r2
def f12_r3 : List MO := [
(Qa (Qp 17) (Qe 7 true (Qh 6))),
(Qa (Qp 18) (Qg 23 [(Qh 17)])),
(Qa (Qp 19) (MOp.len Qn (Qh 18))),
(Qa (Qp 20) (Qc (Qi (Qj (Qk (Ql Qo 0))))))]
def f12_c3 : MC := .reg false f12_r3
def f12_r4 : List MO := [
(Qa (Qp 21) (Qd Qn Go.BinOp.lss (Qh 20) (Qh 19)))]
def f12_c4 : MC := .reg false f12_r4
def f12_c5 : MC := MC.skip
def f12_c6 : MC := (MC.exit 0)
def f12_c7 : MC := .cond (Qh 21) f12_c5 f12_c6
def f12_r8 : List MO := [
(Qa (Qp 22) (MOp.iad 4 (Qh 18) (Qh 20))),
(Qa (Qp 23) (Qe 4 true (Qh 22))),
(Qa (Qp 10) (MOp.alloc [(Ql Qo 0), (Ql Qo 0), (D.str (ByteArray.mk #[])), (Ql Qo 0)])),
(Qa none (MOp.store 4 (Qh 10) (Qh 23)))]
def f12_c8 : MC := .reg false f12_r8
def f12_r9 : List MO := [
(Qa (Qp 24) (Qc (Qh 8))),
(Qa (Qp 25) (Qf 0 (Qh 10))),
(Qa (Qp 26) (Qe 3 true (Qh 25))),
(Qa (Qp 27) (MOp.bslice 3 [(Ql Qo 0), (Ql Qo 0), (D.str (ByteArray.mk #[]))] 1 [(0, (Qh 26))])),
(Qa (Qp 28) (MOp.app 3 32 (Qh 24) (Qh 27))),
(Qa (Qp 8) (Qc (Qh 28)))]
def f12_c9 : MC := .reg false f12_r9
def f12_c10 : MC := .seq f12_c8 f12_c9
def f12_c11 : MC := .blk 1 f12_c10
def f12_r12 : List MO := [
(Qa (Qp 29) (Qd Qn Go.BinOp.add (Qh 20) (Qi (Qj (Qk (Ql Qo 1)))))),
(Qa (Qp 20) (Qc (Qh 29)))]
def f12_c12 : MC := .reg false f12_r12
def f12_c13 : MC := .seq f12_c11 f12_c12
def f12_c14 : MC := .seq f12_c7 f12_c13
def f12_c15 : MC := .seq f12_c4 f12_c14
def f12_c16 : MC := .loop f12_c15
def f12_c17 : MC := .blk 0 f12_c16
def f12_c18 : MC := .seq f12_c3 f12_c17
def f12_r19 : List MO := [
(Qa (Qp 30) (Qc (Qh 8))),
(Qa (Qp 31) (Qc (Qh 7))),
(Qa (Qp 4) (Qc (Qh 30))),
(Qa (Qp 5) (Qc (Qh 31)))]
def f12_c19 : MC := .reg false f12_r19
def f12_c20 : MC := MC.ret
def f12_c21 : MC := .seq f12_c19 f12_c20
def f12_c22 : MC := .seq f12_c18 f12_c21
def f12_c23 : MC := .seq f12_c2 f12_c22
def f12_c24 : MC := .seq f12_c1 f12_c23
def f12_c25 : MC := .seq f12_c0 f12_c24
noncomputable def f12_code : Code := (Go.Proofs.Tryd.f12.body).getD .skip
theorem f12_body : Go.Proofs.Tryd.f12.body = Qp f12_code := by kernel_rfl
theorem f12_tr : trC Go.Proofs.Tryd.prog [2] f12_code = Qp f12_c25 := by kernel_rfl
theorem f12_rs : rsOf Go.Proofs.Tryd.prog Go.Proofs.Tryd.f12.results.toList = Qp [(RV.t 4), (RV.t 5)] := by kernel_rfl
theorem f12_nt : Go.Proofs.Tryd.f12.ntmps = 32 := by kernel_rfl
theorem f12_ok : callable Go.Proofs.Tryd.prog 12 = true := by kernel_rfl
theorem f12_in {gp : Heap} {args : List V} {res : V} (h : G ⟨Go.Proofs.Tryd.prog, gp, 0, [(RV.t 4), (RV.t 5)], fun r c => r = res ∧ c = [], false⟩ [.code f12_c25, .fin] ⟨args ++ List.replicate (32 - args.length) .un, []⟩) : Does Go.Proofs.Tryd.prog gp 12 args res :=
  does_intro f12_ok Go.Proofs.Tryd.func12 f12_body f12_tr f12_rs (by rw [f12_nt]; exact h)
theorem f12_tri {gp : Heap} {args : List V} {pre : List Ch} {R : V → List Ch → Prop} (h : G ⟨Go.Proofs.Tryd.prog, gp, pre.length, [(RV.t 4), (RV.t 5)], R, false⟩ [.code f12_c25, .fin] ⟨args ++ List.replicate (32 - args.length) .un, pre⟩) : Tri Go.Proofs.Tryd.prog gp 12 args pre R :=
  tri_intro Go.Proofs.Tryd.func12 f12_body f12_tr f12_rs (by rw [f12_nt]; exact h)

/-! sigillary/arena.Find -/
def f13_r0 : List MO := [
(Qa (Qp 3) (MOp.ibox (Qh 0))),
(Qa (Qp 5) (MOp.ibox (Qh 2))),
(Qa (Qp 6) (Qc (Qi (Qj (Qk (Ql Qo 0)))))),
(Qa (Qp 7) (Qc (Qi (Qj (Qk (Qm false))))))]
def f13_c0 : MC := .reg false f13_r0
def f13_r1 : List MO := [
(Qa (Qp 13) (Qe 2 true (Qh 3))),
(Qa (Qp 14) (Qc (Qh 1))),
(Qa (Qp 15) (Qg 21 [(Qh 13), (Qh 14)])),
(Qa (Qp 12) (Qc (Qh 15))),
(Qa (Qp 16) (MOp.ext (Qh 12) 0)),
(Qa (Qp 17) (MOp.ext (Qh 12) 1)),
(Qa (Qp 8) (MOp.alloc [(Ql Qo 0), (Ql Qo 0), (Ql Qo 0), (D.str (ByteArray.mk #[])), (D.sl []), (D.sl []), (Ql Qo 0)])),
(Qa none (MOp.store 7 (Qh 8) (Qh 16))),
(Qa (Qp 9) (Qc (Qh 17)))]
def f13_c1 : MC := .reg false f13_r1
def f13_r2 : List MO := [
(Qa (Qp 18) (Qc (Qh 9))),
(Qa (Qp 19) (Qd Qn Go.BinOp.neq (Qh 18) (Qi (Qj (Qk (Ql Qo 0)))))),
(Qa (Qp 20) (Qc (Qh 19))),
(Qb 20 false (Qp 21)),
(Qa (Qp 21) (Qf 0 (Qh 8))),
(Qb 20 false (Qp 22)),
(Qa (Qp 22) (Qf 0 (Qh 21))),
(Qb 20 false (Qp 23)),
(Qa (Qp 23) (Qe 1 false (Qh 22))),
(Qb 20 false (Qp 24)),
(Qa (Qp 24) (Qd Qn Go.BinOp.neq (Qh 23) (Qi (Qj (Qk (Ql Qo 2)))))),
(Qa (Qp 25) (MOp.pick (Qh 20) (Qi (Qj (Qk (Qm true)))) (Qh 24)))]
def f13_c2 : MC := .reg false f13_r2
def f13_r3 : List MO := [
(Qa (Qp 6) (Qc (Qi (Qj (Qk (Ql Qo 0)))))),
(Qa (Qp 7) (Qc (Qi (Qj (Qk (Qm false))))))]
def f13_c3 : MC := .reg false f13_r3
def f13_c4 : MC := MC.ret
def f13_c5 : MC := .seq f13_c3 f13_c4
def f13_c6 : MC := MC.skip
def f13_c7 : MC := .cond (Qh 25) f13_c5 f13_c6
def f13_c8 : MC := .seq f13_c2 f13_c7
def f13_r9 : List MO := [
(Qa (Qp 26) (Qf 0 (Qh 8))),
(Qa (Qp 27) (Qf 4 (Qh 26))),
(Qa (Qp 28) (Qe 1 false (Qh 27))),
(Qa (Qp 29) (Qf 0 (Qh 8))),
(Qa (Qp 30) (Qf 4 (Qh 29))),
(Qa (Qp 31) (Qe 1 false (Qh 30))),
(Qa (Qp 32) (MOp.len Qn (Qh 31))),
(Qa (Qp 33) (Qf 0 (Qh 8))),
(Qa (Qp 34) (Qf 5 (Qh 33))),
(Qa (Qp 35) (Qe 1 false (Qh 34))),
(Qa (Qp 36) (MOp.len Qn (Qh 35))),
(Qa (Qp 37) (MOp.min (Qh 32) (Qh 36))),
(Qa (Qp 38) (MOp.slc 3 (Qh 28) none (Qp (Qh 37)))),
(Qa (Qp 39) (MOp.len Qn (Qh 38))),
(Qa (Qp 40) (Qc (Qi (Qj (Qk (Ql Qo 0))))))]
def f13_c9 : MC := .reg false f13_r9
def f13_r10 : List MO := [
(Qa (Qp 41) (Qd Qn Go.BinOp.lss (Qh 40) (Qh 39)))]
def f13_c10 : MC := .reg false f13_r10
def f13_c11 : MC := MC.skip
def f13_c12 : MC := (MC.exit 0)
def f13_c13 : MC := .cond (Qh 41) f13_c11 f13_c12
def f13_r14 : List MO := [
(Qa (Qp 42) (Qc (Qh 40))),
(Qa (Qp 43) (MOp.iad 3 (Qh 38) (Qh 40))),
(Qa (Qp 44) (Qe 3 true (Qh 43))),
(Qa (Qp 11) (MOp.alloc [(Ql Qo 0), (Ql Qo 0), (D.str (ByteArray.mk #[]))])),
(Qa (Qp 10) (Qc (Qh 42))),
(Qa none (MOp.store 3 (Qh 11) (Qh 44)))]
def f13_c14 : MC := .reg false f13_r14
def f13_r15 : List MO := [
(Qa (Qp 45) (Qe 3 true (Qh 11))),
(Qa (Qp 46) (Qe 3 true (Qh 5))),
(Qa (Qp 47) (MOp.eqs false [Qn, Qn, Leaf.s] (Qh 45) (Qh 46)))]
def f13_c15 : MC := .reg false f13_r15
def f13_r16 : List MO := [
(Qa (Qp 48) (Qf 0 (Qh 8))),
(Qa (Qp 49) (Qf 5 (Qh 48))),
(Qa (Qp 50) (Qe 1 false (Qh 49))),
(Qa (Qp 51) (Qc (Qh 10))),
(Qa (Qp 52) (MOp.iad 1 (Qh 50) (Qh 51))),
(Qa (Qp 53) (Qe 1 false (Qh 52))),
(Qa (Qp 6) (Qc (Qh 53))),
(Qa (Qp 7) (Qc (Qi (Qj (Qk (Qm true))))))]
def f13_c16 : MC := .reg false f13_r16
def f13_c17 : MC := MC.ret
def f13_c18 : MC := .seq f13_c16 f13_c17
def f13_c19 : MC := MC.skip
def f13_c20 : MC := .cond (Qh 47) f13_c18 f13_c19
def f13_c21 : MC := .seq f13_c15 f13_c20
def f13_c22 : MC := .seq f13_c14 f13_c21
def f13_c23 : MC := .blk 1 f13_c22
def f13_r24 : List MO := [
(Qa (Qp 54) (Qd Qn Go.BinOp.add (Qh 40) (Qi (Qj (Qk (Ql Qo 1)))))),
(Qa (Qp 40) (Qc (Qh 54)))]
def f13_c24 : MC := .reg false f13_r24
def f13_c25 : MC := .seq f13_c23 f13_c24
def f13_c26 : MC := .seq f13_c13 f13_c25
def f13_c27 : MC := .seq f13_c10 f13_c26
def f13_c28 : MC := .loop f13_c27
def f13_c29 : MC := .blk 0 f13_c28
def f13_c30 : MC := .seq f13_c9 f13_c29
def f13_r31 : List MO := [
(Qa (Qp 6) (Qc (Qi (Qj (Qk (Ql Qo 0)))))),
(Qa (Qp 7) (Qc (Qi (Qj (Qk (Qm false))))))]
def f13_c31 : MC := .reg false f13_r31
def f13_c32 : MC := MC.ret
def f13_c33 : MC := .seq f13_c31 f13_c32
def f13_c34 : MC := .seq f13_c30 f13_c33
def f13_c35 : MC := .seq f13_c8 f13_c34
def f13_c36 : MC := .seq f13_c1 f13_c35
def f13_c37 : MC := .seq f13_c0 f13_c36
noncomputable def f13_code : Code := (Go.Proofs.Tryd.f13.body).getD .skip
theorem f13_body : Go.Proofs.Tryd.f13.body = Qp f13_code := by kernel_rfl
theorem f13_tr : trC Go.Proofs.Tryd.prog [3, 5] f13_code = Qp f13_c37 := by kernel_rfl
theorem f13_rs : rsOf Go.Proofs.Tryd.prog Go.Proofs.Tryd.f13.results.toList = Qp [(RV.t 6), (RV.t 7)] := by kernel_rfl
theorem f13_nt : Go.Proofs.Tryd.f13.ntmps = 55 := by kernel_rfl
theorem f13_ok : callable Go.Proofs.Tryd.prog 13 = true := by kernel_rfl
theorem f13_in {gp : Heap} {args : List V} {res : V} (h : G ⟨Go.Proofs.Tryd.prog, gp, 0, [(RV.t 6), (RV.t 7)], fun r c => r = res ∧ c = [], false⟩ [.code f13_c37, .fin] ⟨args ++ List.replicate (55 - args.length) .un, []⟩) : Does Go.Proofs.Tryd.prog gp 13 args res :=
  does_intro f13_ok Go.Proofs.Tryd.func13 f13_body f13_tr f13_rs (by rw [f13_nt]; exact h)
theorem f13_tri {gp : Heap} {args : List V} {pre : List Ch} {R : V → List Ch → Prop} (h : G ⟨Go.Proofs.Tryd.prog, gp, pre.length, [(RV.t 6), (RV.t 7)], R, false⟩ [.code f13_c37, .fin] ⟨args ++ List.replicate (55 - args.length) .un, pre⟩) : Tri Go.Proofs.Tryd.prog gp 13 args pre R :=
  tri_intro Go.Proofs.Tryd.func13 f13_body f13_tr f13_rs (by rw [f13_nt]; exact h)

/-! sigillary/scal.Compare -/
def f14_r0 : List MO := [
(Qa (Qp 2) (MOp.ibox (Qh 0))),
(Qa (Qp 3) (MOp.ibox (Qh 1))),
(Qa (Qp 4) (Qc (Qi (Qj (Qk (Ql Qo 0))))))]
def f14_c0 : MC := .reg false f14_r0
def f14_r1 : List MO := [
(Qa (Qp 5) (Qe 3 true (Qh 2))),
(Qa (Qp 6) (Qe 3 true (Qh 3))),
(Qa (Qp 7) (MOp.eqs false [Qn, Qn, Leaf.s] (Qh 5) (Qh 6)))]
def f14_c1 : MC := .reg false f14_r1
def f14_r2 : List MO := [
(Qa (Qp 4) (Qc (Qi (Qj (Qk (Ql Qo 0))))))]
def f14_c2 : MC := .reg false f14_r2
def f14_c3 : MC := MC.ret
def f14_c4 : MC := .seq f14_c2 f14_c3
def f14_c5 : MC := MC.skip
def f14_c6 : MC := .cond (Qh 7) f14_c4 f14_c5
def f14_c7 : MC := .seq f14_c1 f14_c6
def f14_r8 : List MO := [
(Qa (Qp 8) (Qf 0 (Qh 2))),
(Qa (Qp 9) (Qe 1 false (Qh 8))),
(Qa (Qp 10) (Qf 0 (Qh 3))),
(Qa (Qp 11) (Qe 1 false (Qh 10))),
(Qa (Qp 12) (Qg 25 [(Qh 9), (Qh 11)])),
(Qa (Qp 13) (Qf 1 (Qh 2))),
(Qa (Qp 14) (Qe 1 false (Qh 13))),
(Qa (Qp 15) (Qf 1 (Qh 3))),
(Qa (Qp 16) (Qe 1 false (Qh 15))),
(Qa (Qp 17) (Qg 25 [(Qh 14), (Qh 16)])),
(Qa (Qp 18) (Qf 2 (Qh 2))),
(Qa (Qp 19) (Qe 1 false (Qh 18))),
(Qa (Qp 20) (Qf 2 (Qh 3))),
(Qa (Qp 21) (Qe 1 false (Qh 20))),
(Qa (Qp 22) (Qg 26 [(Qh 19), (Qh 21)])),
(Qa (Qp 23) (MOp.bslice 1 [(Ql Qo 0)] 3 [(0, (Qh 12)), (1, (Qh 17)), (2, (Qh 22))])),
(Qa (Qp 24) (Qg 24 [(Qh 23)])),
(Qa (Qp 4) (Qc (Qh 24)))]
def f14_c8 : MC := .reg true f14_r8
def f14_c9 : MC := MC.ret
def f14_c10 : MC := .seq f14_c8 f14_c9
def f14_c11 : MC := .seq f14_c7 f14_c10
def f14_c12 : MC := .seq f14_c0 f14_c11
noncomputable def f14_code : Code := (Go.Proofs.Tryd.f14.body).getD .skip
theorem f14_body : Go.Proofs.Tryd.f14.body = Qp f14_code := by kernel_rfl
theorem f14_tr : trC Go.Proofs.Tryd.prog [2, 3] f14_code = Qp f14_c12 := by kernel_rfl
theorem f14_rs : rsOf Go.Proofs.Tryd.prog Go.Proofs.Tryd.f14.results.toList = Qp [(RV.t 4)] := by kernel_rfl
theorem f14_nt : Go.Proofs.Tryd.f14.ntmps = 25 := by kernel_rfl
theorem f14_ok : callable Go.Proofs.Tryd.prog 14 = true := by kernel_rfl
theorem f14_in {gp : Heap} {args : List V} {res : V} (h : G ⟨Go.Proofs.Tryd.prog, gp, 0, [(RV.t 4)], fun r c => r = res ∧ c = [], false⟩ [.code f14_c12, .fin] ⟨args ++ List.replicate (25 - args.length) .un, []⟩) : Does Go.Proofs.Tryd.prog gp 14 args res :=
  does_intro f14_ok Go.Proofs.Tryd.func14 f14_body f14_tr f14_rs (by rw [f14_nt]; exact h)
theorem f14_tri {gp : Heap} {args : List V} {pre : List Ch} {R : V → List Ch → Prop} (h : G ⟨Go.Proofs.Tryd.prog, gp, pre.length, [(RV.t 4)], R, false⟩ [.code f14_c12, .fin] ⟨args ++ List.replicate (25 - args.length) .un, pre⟩) : Tri Go.Proofs.Tryd.prog gp 14 args pre R :=
  tri_intro Go.Proofs.Tryd.func14 f14_body f14_tr f14_rs (by rw [f14_nt]; exact h)

/-! sigillary/sigillaryref01.Ints -/
def f15_r0 : List MO := [
(Qa (Qp 4) (Qc (Qi (Qj (Qk (Qm false))))))]
def f15_c0 : MC := .reg false f15_r0
def f15_r1 : List MO := [
(Qa (Qp 6) (Qc (Qh 0))),
(Qa (Qp 7) (MOp.len Qn (Qh 6))),
(Qa (Qp 8) (Qc (Qh 1))),
(Qa (Qp 9) (MOp.len Qn (Qh 8))),
(Qa (Qp 10) (Qd Qn Go.BinOp.neq (Qh 7) (Qh 9)))]
def f15_c1 : MC := .reg false f15_r1
def f15_r2 : List MO := [
(Qa (Qp 4) (Qc (Qi (Qj (Qk (Qm false))))))]
def f15_c2 : MC := .reg false f15_r2
def f15_c3 : MC := MC.ret
def f15_c4 : MC := .seq f15_c2 f15_c3
def f15_c5 : MC := MC.skip
def f15_c6 : MC := .cond (Qh 10) f15_c4 f15_c5
def f15_c7 : MC := .seq f15_c1 f15_c6
def f15_r8 : List MO := [
(Qa (Qp 5) (Qc (Qi (Qj (Qk (Ql Qo 0))))))]
def f15_c8 : MC := .reg false f15_r8
def f15_r9 : List MO := [
(Qa (Qp 11) (Qc (Qh 5))),
(Qa (Qp 12) (Qc (Qh 0))),
(Qa (Qp 13) (MOp.len Qn (Qh 12))),
(Qa (Qp 14) (Qd Qn Go.BinOp.lss (Qh 11) (Qh 13)))]
def f15_c9 : MC := .reg false f15_r9
def f15_c10 : MC := MC.skip
def f15_c11 : MC := (MC.exit 0)
def f15_c12 : MC := .cond (Qh 14) f15_c10 f15_c11
def f15_c13 : MC := .seq f15_c9 f15_c12
def f15_r14 : List MO := [
(Qa (Qp 17) (Qc (Qh 0))),
(Qa (Qp 18) (Qc (Qh 5))),
(Qa (Qp 19) (MOp.iad 1 (Qh 17) (Qh 18))),
(Qa (Qp 20) (Qe 1 false (Qh 19))),
(Qa (Qp 21) (Qc (Qh 1))),
(Qa (Qp 22) (Qc (Qh 5))),
(Qa (Qp 23) (MOp.iad 1 (Qh 21) (Qh 22))),
(Qa (Qp 24) (Qe 1 false (Qh 23))),
(Qa (Qp 25) (Qd Qn Go.BinOp.neq (Qh 20) (Qh 24)))]
def f15_c14 : MC := .reg true f15_r14
def f15_r15 : List MO := [
(Qa (Qp 4) (Qc (Qi (Qj (Qk (Qm false))))))]
def f15_c15 : MC := .reg false f15_r15
def f15_c16 : MC := MC.ret
def f15_c17 : MC := .seq f15_c15 f15_c16
def f15_c18 : MC := MC.skip
def f15_c19 : MC := .cond (Qh 25) f15_c17 f15_c18
def f15_c20 : MC := .seq f15_c14 f15_c19
def f15_c21 : MC := .blk 1 f15_c20
def f15_r22 : List MO := [
(Qa (Qp 15) (Qc (Qh 5))),
(Qa (Qp 16) (Qd Qn Go.BinOp.add (Qh 15) (Qi (Qj (Qk (Ql Qo 1)))))),
(Qa (Qp 5) (Qc (Qh 16)))]
def f15_c22 : MC := .reg false f15_r22
def f15_c23 : MC := .seq f15_c21 f15_c22
def f15_c24 : MC := .seq f15_c13 f15_c23
def f15_c25 : MC := .loop f15_c24
def f15_c26 : MC := .blk 0 f15_c25
def f15_c27 : MC := .seq f15_c8 f15_c26
def f15_r28 : List MO := [
(Qa (Qp 4) (Qc (Qi (Qj (Qk (Qm true))))))]
def f15_c28 : MC := .reg false f15_r28
def f15_c29 : MC := MC.ret
def f15_c30 : MC := .seq f15_c28 f15_c29
def f15_c31 : MC := .seq f15_c27 f15_c30
def f15_c32 : MC := .seq f15_c7 f15_c31
def f15_c33 : MC := .seq f15_c0 f15_c32
noncomputable def f15_code : Code := (Go.Proofs.Tryd.f15.body).getD .skip
theorem f15_body : Go.Proofs.Tryd.f15.body = Qp f15_code := by kernel_rfl
theorem f15_tr : trC Go.Proofs.Tryd.prog [] f15_code = Qp f15_c33 := by kernel_rfl
theorem f15_rs : rsOf Go.Proofs.Tryd.prog Go.Proofs.Tryd.f15.results.toList = Qp [(RV.t 4)] := by kernel_rfl
theorem f15_nt : Go.Proofs.Tryd.f15.ntmps = 26 := by kernel_rfl
theorem f15_ok : callable Go.Proofs.Tryd.prog 15 = true := by kernel_rfl
theorem f15_in {gp : Heap} {args : List V} {res : V} (h : G ⟨Go.Proofs.Tryd.prog, gp, 0, [(RV.t 4)], fun r c => r = res ∧ c = [], false⟩ [.code f15_c33, .fin] ⟨args ++ List.replicate (26 - args.length) .un, []⟩) : Does Go.Proofs.Tryd.prog gp 15 args res :=
  does_intro f15_ok Go.Proofs.Tryd.func15 f15_body f15_tr f15_rs (by rw [f15_nt]; exact h)
theorem f15_tri {gp : Heap} {args : List V} {pre : List Ch} {R : V → List Ch → Prop} (h : G ⟨Go.Proofs.Tryd.prog, gp, pre.length, [(RV.t 4)], R, false⟩ [.code f15_c33, .fin] ⟨args ++ List.replicate (26 - args.length) .un, pre⟩) : Tri Go.Proofs.Tryd.prog gp 15 args pre R :=
  tri_intro Go.Proofs.Tryd.func15 f15_body f15_tr f15_rs (by rw [f15_nt]; exact h)

/-! sigillary/sigillaryref06.Same -/
def f16_r0 : List MO := [
(Qa (Qp 4) (Qc (Qi (Qj (Qk (Qm false))))))]
def f16_c0 : MC := .reg false f16_r0
def f16_r1 : List MO := [
(Qa (Qp 6) (Qc (Qh 0))),
(Qa (Qp 7) (MOp.len Qn (Qh 6))),
(Qa (Qp 8) (Qc (Qh 1))),
(Qa (Qp 9) (MOp.len Qn (Qh 8))),
(Qa (Qp 10) (Qd Qn Go.BinOp.neq (Qh 7) (Qh 9)))]
def f16_c1 : MC := .reg false f16_r1
def f16_r2 : List MO := [
(Qa (Qp 4) (Qc (Qi (Qj (Qk (Qm false))))))]
def f16_c2 : MC := .reg false f16_r2
def f16_c3 : MC := MC.ret
def f16_c4 : MC := .seq f16_c2 f16_c3
def f16_c5 : MC := MC.skip
def f16_c6 : MC := .cond (Qh 10) f16_c4 f16_c5
def f16_c7 : MC := .seq f16_c1 f16_c6
def f16_r8 : List MO := [
(Qa (Qp 5) (Qc (Qi (Qj (Qk (Ql Qo 0))))))]
def f16_c8 : MC := .reg false f16_r8
def f16_r9 : List MO := [
(Qa (Qp 11) (Qc (Qh 5))),
(Qa (Qp 12) (Qc (Qh 0))),
(Qa (Qp 13) (MOp.len Qn (Qh 12))),
(Qa (Qp 14) (Qd Qn Go.BinOp.lss (Qh 11) (Qh 13)))]
def f16_c9 : MC := .reg false f16_r9
def f16_c10 : MC := MC.skip
def f16_c11 : MC := (MC.exit 0)
def f16_c12 : MC := .cond (Qh 14) f16_c10 f16_c11
def f16_c13 : MC := .seq f16_c9 f16_c12
def f16_r14 : List MO := [
(Qa (Qp 17) (Qc (Qh 0))),
(Qa (Qp 18) (Qc (Qh 5))),
(Qa (Qp 19) (MOp.iad 3 (Qh 17) (Qh 18))),
(Qa (Qp 20) (Qe 3 true (Qh 19))),
(Qa (Qp 21) (Qc (Qh 1))),
(Qa (Qp 22) (Qc (Qh 5))),
(Qa (Qp 23) (MOp.iad 3 (Qh 21) (Qh 22))),
(Qa (Qp 24) (Qe 3 true (Qh 23))),
(Qa (Qp 25) (MOp.eqs true [Qn, Qn, Leaf.s] (Qh 20) (Qh 24)))]
def f16_c14 : MC := .reg true f16_r14
def f16_r15 : List MO := [
(Qa (Qp 4) (Qc (Qi (Qj (Qk (Qm false))))))]
def f16_c15 : MC := .reg false f16_r15
def f16_c16 : MC := MC.ret
def f16_c17 : MC := .seq f16_c15 f16_c16
def f16_c18 : MC := MC.skip
def f16_c19 : MC := .cond (Qh 25) f16_c17 f16_c18
def f16_c20 : MC := .seq f16_c14 f16_c19
def f16_c21 : MC := .blk 1 f16_c20
def f16_r22 : List MO := [
(Qa (Qp 15) (Qc (Qh 5))),
(Qa (Qp 16) (Qd Qn Go.BinOp.add (Qh 15) (Qi (Qj (Qk (Ql Qo 1)))))),
(Qa (Qp 5) (Qc (Qh 16)))]
def f16_c22 : MC := .reg false f16_r22
def f16_c23 : MC := .seq f16_c21 f16_c22
def f16_c24 : MC := .seq f16_c13 f16_c23
def f16_c25 : MC := .loop f16_c24
def f16_c26 : MC := .blk 0 f16_c25
def f16_c27 : MC := .seq f16_c8 f16_c26
def f16_r28 : List MO := [
(Qa (Qp 4) (Qc (Qi (Qj (Qk (Qm true))))))]
def f16_c28 : MC := .reg false f16_r28
def f16_c29 : MC := MC.ret
def f16_c30 : MC := .seq f16_c28 f16_c29
def f16_c31 : MC := .seq f16_c27 f16_c30
def f16_c32 : MC := .seq f16_c7 f16_c31
def f16_c33 : MC := .seq f16_c0 f16_c32
noncomputable def f16_code : Code := (Go.Proofs.Tryd.f16.body).getD .skip
theorem f16_body : Go.Proofs.Tryd.f16.body = Qp f16_code := by kernel_rfl
theorem f16_tr : trC Go.Proofs.Tryd.prog [] f16_code = Qp f16_c33 := by kernel_rfl
theorem f16_rs : rsOf Go.Proofs.Tryd.prog Go.Proofs.Tryd.f16.results.toList = Qp [(RV.t 4)] := by kernel_rfl
theorem f16_nt : Go.Proofs.Tryd.f16.ntmps = 26 := by kernel_rfl
theorem f16_ok : callable Go.Proofs.Tryd.prog 16 = true := by kernel_rfl
theorem f16_in {gp : Heap} {args : List V} {res : V} (h : G ⟨Go.Proofs.Tryd.prog, gp, 0, [(RV.t 4)], fun r c => r = res ∧ c = [], false⟩ [.code f16_c33, .fin] ⟨args ++ List.replicate (26 - args.length) .un, []⟩) : Does Go.Proofs.Tryd.prog gp 16 args res :=
  does_intro f16_ok Go.Proofs.Tryd.func16 f16_body f16_tr f16_rs (by rw [f16_nt]; exact h)
theorem f16_tri {gp : Heap} {args : List V} {pre : List Ch} {R : V → List Ch → Prop} (h : G ⟨Go.Proofs.Tryd.prog, gp, pre.length, [(RV.t 4)], R, false⟩ [.code f16_c33, .fin] ⟨args ++ List.replicate (26 - args.length) .un, pre⟩) : Tri Go.Proofs.Tryd.prog gp 16 args pre R :=
  tri_intro Go.Proofs.Tryd.func16 f16_body f16_tr f16_rs (by rw [f16_nt]; exact h)

/-! sigillary/sigillarylaw06.Cut -/
def f17_r0 : List MO := [
(Qa (Qp 1) (MOp.ibox (Qh 0))),
(Qa (Qp 2) (MOp.alloc [(Ql Qo 0), (Ql Qo 0), (D.str (ByteArray.mk #[]))]))]
def f17_c0 : MC := .reg false f17_r0
def f17_r1 : List MO := [
(Qa (Qp 3) (Qf 0 (Qh 1))),
(Qa (Qp 4) (Qe 1 false (Qh 3))),
(Qa (Qp 5) (Qf 1 (Qh 1))),
(Qa (Qp 6) (Qe 1 false (Qh 5))),
(Qa (Qp 7) (Qf 2 (Qh 1))),
(Qa (Qp 8) (Qe 1 false (Qh 7))),
(Qa (Qp 9) (Qg 27 [(Qh 8)])),
(Qa (Qp 10) (MOp.build [(Ql Qo 0), (Ql Qo 0), (D.str (ByteArray.mk #[]))] [(0, (1, (Qh 4))), (1, (1, (Qh 6))), (2, (1, (Qh 9)))])),
(Qa none (MOp.store 3 (Qh 2) (Qh 10)))]
def f17_c1 : MC := .reg true f17_r1
def f17_c2 : MC := MC.ret
def f17_c3 : MC := .seq f17_c1 f17_c2
def f17_c4 : MC := .seq f17_c0 f17_c3
noncomputable def f17_code : Code := (Go.Proofs.Tryd.f17.body).getD .skip
theorem f17_body : Go.Proofs.Tryd.f17.body = Qp f17_code := by kernel_rfl
theorem f17_tr : trC Go.Proofs.Tryd.prog [1] f17_code = Qp f17_c4 := by kernel_rfl
theorem f17_rs : rsOf Go.Proofs.Tryd.prog Go.Proofs.Tryd.f17.results.toList = Qp [(RV.cell 2 3 true)] := by kernel_rfl
theorem f17_nt : Go.Proofs.Tryd.f17.ntmps = 11 := by kernel_rfl
theorem f17_ok : callable Go.Proofs.Tryd.prog 17 = true := by kernel_rfl
theorem f17_in {gp : Heap} {args : List V} {res : V} (h : G ⟨Go.Proofs.Tryd.prog, gp, 0, [(RV.cell 2 3 true)], fun r c => r = res ∧ c = [], false⟩ [.code f17_c4, .fin] ⟨args ++ List.replicate (11 - args.length) .un, []⟩) : Does Go.Proofs.Tryd.prog gp 17 args res :=
  does_intro f17_ok Go.Proofs.Tryd.func17 f17_body f17_tr f17_rs (by rw [f17_nt]; exact h)
theorem f17_tri {gp : Heap} {args : List V} {pre : List Ch} {R : V → List Ch → Prop} (h : G ⟨Go.Proofs.Tryd.prog, gp, pre.length, [(RV.cell 2 3 true)], R, false⟩ [.code f17_c4, .fin] ⟨args ++ List.replicate (11 - args.length) .un, pre⟩) : Tri Go.Proofs.Tryd.prog gp 17 args pre R :=
  tri_intro Go.Proofs.Tryd.func17 f17_body f17_tr f17_rs (by rw [f17_nt]; exact h)

/-! sigillary/arena.Same -/
def f18_r0 : List MO := [
(Qa (Qp 2) (MOp.ibox (Qh 0))),
(Qa (Qp 3) (MOp.ibox (Qh 1))),
(Qa (Qp 4) (Qc (Qi (Qj (Qk (Qm false))))))]
def f18_c0 : MC := .reg false f18_r0
def f18_r1 : List MO := [
(Qa (Qp 5) (Qc (Qi (Qj (Qk (D.fn (Go.Fn.func 28) []))))))]
def f18_c1 : MC := .reg false f18_r1
def f18_r2 : List MO := [
(Qa (Qp 6) (Qf 0 (Qh 2))),
(Qa (Qp 7) (Qe 1 false (Qh 6))),
(Qa (Qp 8) (Qf 0 (Qh 3))),
(Qa (Qp 9) (Qe 1 false (Qh 8))),
(Qa (Qp 10) (Qd Qn Go.BinOp.eql (Qh 7) (Qh 9))),
(Qa (Qp 11) (Qc (Qh 10))),
(Qb 11 true (Qp 12)),
(Qa (Qp 12) (Qf 1 (Qh 2))),
(Qb 11 true (Qp 13)),
(Qa (Qp 13) (Qe 1 false (Qh 12))),
(Qb 11 true (Qp 14)),
(Qa (Qp 14) (Qf 1 (Qh 3))),
(Qb 11 true (Qp 15)),
(Qa (Qp 15) (Qe 1 false (Qh 14))),
(Qb 11 true (Qp 16)),
(Qa (Qp 16) (Qc (Qh 5))),
(Qb 11 true (Qp 17)),
(Qa (Qp 17) (Qg 31 [(Qh 13), (Qh 15), (Qh 16)])),
(Qa (Qp 18) (MOp.pick (Qh 11) (Qh 17) (Qi (Qj (Qk (Qm false)))))),
(Qa (Qp 4) (Qc (Qh 18)))]
def f18_c2 : MC := .reg false f18_r2
def f18_c3 : MC := MC.ret
def f18_c4 : MC := .seq f18_c2 f18_c3
def f18_c5 : MC := .seq f18_c1 f18_c4
def f18_c6 : MC := .seq f18_c0 f18_c5
noncomputable def f18_code : Code := (Go.Proofs.Tryd.f18.body).getD .skip
theorem f18_body : Go.Proofs.Tryd.f18.body = Qp f18_code := by kernel_rfl
theorem f18_tr : trC Go.Proofs.Tryd.prog [2, 3] f18_code = Qp f18_c6 := by kernel_rfl
theorem f18_rs : rsOf Go.Proofs.Tryd.prog Go.Proofs.Tryd.f18.results.toList = Qp [(RV.t 4)] := by kernel_rfl
theorem f18_nt : Go.Proofs.Tryd.f18.ntmps = 19 := by kernel_rfl
theorem f18_ok : callable Go.Proofs.Tryd.prog 18 = true := by kernel_rfl
theorem f18_in {gp : Heap} {args : List V} {res : V} (h : G ⟨Go.Proofs.Tryd.prog, gp, 0, [(RV.t 4)], fun r c => r = res ∧ c = [], false⟩ [.code f18_c6, .fin] ⟨args ++ List.replicate (19 - args.length) .un, []⟩) : Does Go.Proofs.Tryd.prog gp 18 args res :=
  does_intro f18_ok Go.Proofs.Tryd.func18 f18_body f18_tr f18_rs (by rw [f18_nt]; exact h)
theorem f18_tri {gp : Heap} {args : List V} {pre : List Ch} {R : V → List Ch → Prop} (h : G ⟨Go.Proofs.Tryd.prog, gp, pre.length, [(RV.t 4)], R, false⟩ [.code f18_c6, .fin] ⟨args ++ List.replicate (19 - args.length) .un, pre⟩) : Tri Go.Proofs.Tryd.prog gp 18 args pre R :=
  tri_intro Go.Proofs.Tryd.func18 f18_body f18_tr f18_rs (by rw [f18_nt]; exact h)

/-! sigillary/arena.told -/
def f19_r0 : List MO := [
(Qa (Qp 2) (Qc (Qi (Qj (Qk (Ql Qo 0)))))),
(Qa (Qp 3) (Qc (Qi (Qj (Qk (Ql Qo 0))))))]
def f19_c0 : MC := .reg false f19_r0
def f19_r1 : List MO := [
(Qa (Qp 4) (MOp.alloc [(Ql Qo 0), (Ql Qo 0)]))]
def f19_c1 : MC := .reg false f19_r1
def f19_r2 : List MO := [
(Qa (Qp 5) (Qc (Qh 0))),
(Qa (Qp 6) (MOp.mkI 72 (Qh 4))),
(Qa (Qp 7) (Qg 32 [(Qh 5), (Qh 6)]))]
def f19_c2 : MC := .reg false f19_r2
def f19_r3 : List MO := [
(Qa (Qp 8) (Qf 0 (Qh 4))),
(Qa (Qp 9) (Qe 1 false (Qh 8))),
(Qa (Qp 10) (Qf 1 (Qh 4))),
(Qa (Qp 11) (Qe 1 false (Qh 10))),
(Qa (Qp 2) (Qc (Qh 9))),
(Qa (Qp 3) (Qc (Qh 11)))]
def f19_c3 : MC := .reg true f19_r3
def f19_c4 : MC := MC.ret
def f19_c5 : MC := .seq f19_c3 f19_c4
def f19_c6 : MC := MC.skip
def f19_c7 : MC := .cond (Qh 7) f19_c5 f19_c6
def f19_c8 : MC := .seq f19_c2 f19_c7
def f19_r9 : List MO := [
(Qa (Qp 2) (Qc (Qi (Qj (Qk (Ql Qo 0)))))),
(Qa (Qp 3) (Qc (Qi (Qj (Qk (Ql Qo 0))))))]
def f19_c9 : MC := .reg false f19_r9
def f19_c10 : MC := MC.ret
def f19_c11 : MC := .seq f19_c9 f19_c10
def f19_c12 : MC := .seq f19_c8 f19_c11
def f19_c13 : MC := .seq f19_c1 f19_c12
def f19_c14 : MC := .seq f19_c0 f19_c13
noncomputable def f19_code : Code := (Go.Proofs.Tryd.f19.body).getD .skip
theorem f19_body : Go.Proofs.Tryd.f19.body = Qp f19_code := by kernel_rfl
theorem f19_tr : trC Go.Proofs.Tryd.prog [] f19_code = Qp f19_c14 := by kernel_rfl
theorem f19_rs : rsOf Go.Proofs.Tryd.prog Go.Proofs.Tryd.f19.results.toList = Qp [(RV.t 2), (RV.t 3)] := by kernel_rfl
theorem f19_nt : Go.Proofs.Tryd.f19.ntmps = 12 := by kernel_rfl
theorem f19_ok : callable Go.Proofs.Tryd.prog 19 = true := by kernel_rfl
theorem f19_in {gp : Heap} {args : List V} {res : V} (h : G ⟨Go.Proofs.Tryd.prog, gp, 0, [(RV.t 2), (RV.t 3)], fun r c => r = res ∧ c = [], false⟩ [.code f19_c14, .fin] ⟨args ++ List.replicate (12 - args.length) .un, []⟩) : Does Go.Proofs.Tryd.prog gp 19 args res :=
  does_intro f19_ok Go.Proofs.Tryd.func19 f19_body f19_tr f19_rs (by rw [f19_nt]; exact h)
theorem f19_tri {gp : Heap} {args : List V} {pre : List Ch} {R : V → List Ch → Prop} (h : G ⟨Go.Proofs.Tryd.prog, gp, pre.length, [(RV.t 2), (RV.t 3)], R, false⟩ [.code f19_c14, .fin] ⟨args ++ List.replicate (12 - args.length) .un, pre⟩) : Tri Go.Proofs.Tryd.prog gp 19 args pre R :=
  tri_intro Go.Proofs.Tryd.func19 f19_body f19_tr f19_rs (by rw [f19_nt]; exact h)

/-! sigillary/arena.check -/
def f20_r0 : List MO := [
(Qa (Qp 1) (MOp.ibox (Qh 0))),
(Qa (Qp 2) (MOp.alloc [D.nilI]))]
def f20_c0 : MC := .reg false f20_r0
def f20_r1 : List MO := [
(Qa (Qp 6) (Qf 1 (Qh 1))),
(Qa (Qp 7) (Qe 1 false (Qh 6))),
(Qa (Qp 8) (MOp.len Qn (Qh 7))),
(Qa (Qp 9) (Qd Qn Go.BinOp.gtr (Qh 8) (Qi (Qj (Qk (Ql Qo 200)))))),
(Qa (Qp 5) (Qc (Qh 9)))]
def f20_c1 : MC := .reg false f20_r1
def f20_r2 : List MO := [
(Qa (Qp 10) (MOp.build [(Ql Qo 0), (Ql Qo 0)] [(0, (1, (Qi (Qj (Qk (Ql Qo 0)))))), (1, (1, (Qi (Qj (Qk (Ql Qo 71))))))])),
(Qa (Qp 11) (MOp.mkI 70 (Qh 10))),
(Qa none (MOp.store 1 (Qh 2) (Qh 11)))]
def f20_c2 : MC := .reg false f20_r2
def f20_c3 : MC := MC.ret
def f20_c4 : MC := .seq f20_c2 f20_c3
def f20_r5 : List MO := [
(Qa (Qp 13) (Qe 2 true (Qh 1))),
(Qa (Qp 14) (Qf 0 (Qh 1))),
(Qa (Qp 15) (Qe 1 false (Qh 14))),
(Qa (Qp 16) (Qg 33 [(Qh 13), (Qh 15)])),
(Qa (Qp 17) (MOp.not (Qh 16))),
(Qa (Qp 12) (Qc (Qh 17)))]
def f20_c5 : MC := .reg false f20_r5
def f20_r6 : List MO := [
(Qa (Qp 18) (MOp.build [(Ql Qo 0), (Ql Qo 0)] [(0, (1, (Qi (Qj (Qk (Ql Qo (-1))))))), (1, (1, (Qi (Qj (Qk (Ql Qo 70))))))])),
(Qa (Qp 19) (MOp.mkI 70 (Qh 18))),
(Qa none (MOp.store 1 (Qh 2) (Qh 19)))]
def f20_c6 : MC := .reg false f20_r6
def f20_c7 : MC := MC.ret
def f20_c8 : MC := .seq f20_c6 f20_c7
def f20_c9 : MC := MC.skip
def f20_c10 : MC := .cond (Qh 12) f20_c8 f20_c9
def f20_c11 : MC := .seq f20_c5 f20_c10
def f20_c12 : MC := .cond (Qh 5) f20_c4 f20_c11
def f20_c13 : MC := .seq f20_c1 f20_c12
def f20_c14 : MC := .blk 0 f20_c13
def f20_r15 : List MO := [
(Qa (Qp 20) (Qe 2 true (Qh 1))),
(Qa (Qp 21) (Qg 34 [(Qh 20)]))]
def f20_c15 : MC := .reg false f20_r15
def f20_r16 : List MO := [
(Qa (Qp 3) (Qc (Qh 22)))]
def f20_c16 : MC := .reg false f20_r16
def f20_r17 : List MO := [
(Qa (Qp 4) (MOp.alloc [(Ql Qo 0), (Ql Qo 0), (Ql Qo 0), (D.str (ByteArray.mk #[])), (D.sl []), (D.sl []), (Ql Qo 0)])),
(Qa none (MOp.store 7 (Qh 4) (Qh 23)))]
def f20_c17 : MC := .reg false f20_r17
def f20_c18 : MC := .seq f20_c16 f20_c17
def f20_r19 : List MO := [
(Qa (Qp 24) (Qe 7 true (Qh 4))),
(Qa (Qp 25) (Qg 35 [(Qh 24)])),
(Qa (Qp 26) (MOp.not (Qh 25)))]
def f20_c19 : MC := .reg false f20_r19
def f20_r20 : List MO := [
(Qa (Qp 27) (Qc (Qh 3))),
(Qa (Qp 28) (MOp.build [(Ql Qo 0), (Ql Qo 0)] [(0, (1, (Qh 27))), (1, (1, (Qi (Qj (Qk (Ql Qo 70))))))])),
(Qa (Qp 29) (MOp.mkI 70 (Qh 28))),
(Qa none (MOp.store 1 (Qh 2) (Qh 29)))]
def f20_c20 : MC := .reg false f20_r20
def f20_c21 : MC := MC.ret
def f20_c22 : MC := .seq f20_c20 f20_c21
def f20_c23 : MC := MC.skip
def f20_c24 : MC := .cond (Qh 26) f20_c22 f20_c23
def f20_c25 : MC := .seq f20_c19 f20_c24
def f20_c26 : MC := .blk 2 f20_c25
def f20_c27 : MC := .rf (Qh 21) [22, 23] f20_c18 f20_c26
def f20_c28 : MC := .blk 1 f20_c27
def f20_c29 : MC := .seq f20_c15 f20_c28
def f20_r30 : List MO := [
(Qa none (MOp.store 1 (Qh 2) (Qi (Qj (Qk D.nilI)))))]
def f20_c30 : MC := .reg false f20_r30
def f20_c31 : MC := MC.ret
def f20_c32 : MC := .seq f20_c30 f20_c31
def f20_c33 : MC := .seq f20_c29 f20_c32
def f20_c34 : MC := .seq f20_c14 f20_c33
def f20_c35 : MC := .seq f20_c0 f20_c34
noncomputable def f20_code : Code := (Go.Proofs.Tryd.f20.body).getD .skip
theorem f20_body : Go.Proofs.Tryd.f20.body = Qp f20_code := by kernel_rfl
theorem f20_tr : trC Go.Proofs.Tryd.prog [1] f20_code = Qp f20_c35 := by kernel_rfl
theorem f20_rs : rsOf Go.Proofs.Tryd.prog Go.Proofs.Tryd.f20.results.toList = Qp [(RV.cell 2 1 false)] := by kernel_rfl
theorem f20_nt : Go.Proofs.Tryd.f20.ntmps = 30 := by kernel_rfl
theorem f20_ok : callable Go.Proofs.Tryd.prog 20 = true := by kernel_rfl
theorem f20_in {gp : Heap} {args : List V} {res : V} (h : G ⟨Go.Proofs.Tryd.prog, gp, 0, [(RV.cell 2 1 false)], fun r c => r = res ∧ c = [], false⟩ [.code f20_c35, .fin] ⟨args ++ List.replicate (30 - args.length) .un, []⟩) : Does Go.Proofs.Tryd.prog gp 20 args res :=
  does_intro f20_ok Go.Proofs.Tryd.func20 f20_body f20_tr f20_rs (by rw [f20_nt]; exact h)
theorem f20_tri {gp : Heap} {args : List V} {pre : List Ch} {R : V → List Ch → Prop} (h : G ⟨Go.Proofs.Tryd.prog, gp, pre.length, [(RV.cell 2 1 false)], R, false⟩ [.code f20_c35, .fin] ⟨args ++ List.replicate (30 - args.length) .un, pre⟩) : Tri Go.Proofs.Tryd.prog gp 20 args pre R :=
  tri_intro Go.Proofs.Tryd.func20 f20_body f20_tr f20_rs (by rw [f20_nt]; exact h)

/-! sigillary/arena.at -/
def f21_r0 : List MO := [
(Qa (Qp 2) (MOp.ibox (Qh 0))),
(Qa (Qp 4) (MOp.alloc [(Ql Qo 0), (Ql Qo 0), (Ql Qo 0), (D.str (ByteArray.mk #[])), (D.sl []), (D.sl []), (Ql Qo 0)])),
(Qa (Qp 5) (Qc (Qi (Qj (Qk (Ql Qo 0))))))]
def f21_c0 : MC := .reg false f21_r0
def f21_r1 : List MO := [
(Qa (Qp 6) (Qe 2 true (Qh 2))),
(Qa (Qp 7) (Qc (Qh 1))),
(Qa (Qp 8) (Qg 33 [(Qh 6), (Qh 7)])),
(Qa (Qp 9) (MOp.not (Qh 8)))]
def f21_c1 : MC := .reg false f21_r1
def f21_r2 : List MO := [
(Qa (Qp 10) (MOp.build [(Ql Qo 0), (Ql Qo 0), (Ql Qo 0), (D.str (ByteArray.mk #[])), (D.sl []), (D.sl []), (Ql Qo 0)] [])),
(Qa none (MOp.store 7 (Qh 4) (Qh 10))),
(Qa (Qp 5) (Qc (Qi (Qj (Qk (Ql Qo 2))))))]
def f21_c2 : MC := .reg false f21_r2
def f21_c3 : MC := MC.ret
def f21_c4 : MC := .seq f21_c2 f21_c3
def f21_c5 : MC := MC.skip
def f21_c6 : MC := .cond (Qh 9) f21_c4 f21_c5
def f21_c7 : MC := .seq f21_c1 f21_c6
def f21_r8 : List MO := [
(Qa (Qp 11) (Qf 1 (Qh 2))),
(Qa (Qp 12) (Qe 1 false (Qh 11))),
(Qa (Qp 13) (Qc (Qh 1))),
(Qa (Qp 14) (MOp.iad 6 (Qh 12) (Qh 13))),
(Qa (Qp 15) (Qe 6 true (Qh 14))),
(Qa (Qp 16) (Qf 1 (Qh 2))),
(Qa (Qp 17) (Qe 1 false (Qh 16))),
(Qa (Qp 18) (MOp.len Qn (Qh 17))),
(Qa (Qp 19) (MOp.build [(Ql Qo 0), (Ql Qo 0), (Ql Qo 0), (D.str (ByteArray.mk #[])), (D.sl []), (D.sl []), (Ql Qo 0)] [(0, (6, (Qh 15))), (6, (1, (Qh 18)))])),
(Qa none (MOp.store 7 (Qh 4) (Qh 19))),
(Qa (Qp 5) (Qc (Qi (Qj (Qk (Ql Qo 0))))))]
def f21_c8 : MC := .reg true f21_r8
def f21_c9 : MC := MC.ret
def f21_c10 : MC := .seq f21_c8 f21_c9
def f21_c11 : MC := .seq f21_c7 f21_c10
def f21_c12 : MC := .seq f21_c0 f21_c11
noncomputable def f21_code : Code := (Go.Proofs.Tryd.f21.body).getD .skip
theorem f21_body : Go.Proofs.Tryd.f21.body = Qp f21_code := by kernel_rfl
theorem f21_tr : trC Go.Proofs.Tryd.prog [2] f21_code = Qp f21_c12 := by kernel_rfl
theorem f21_rs : rsOf Go.Proofs.Tryd.prog Go.Proofs.Tryd.f21.results.toList = Qp [(RV.cell 4 7 true), (RV.t 5)] := by kernel_rfl
theorem f21_nt : Go.Proofs.Tryd.f21.ntmps = 20 := by kernel_rfl
theorem f21_ok : callable Go.Proofs.Tryd.prog 21 = true := by kernel_rfl
theorem f21_in {gp : Heap} {args : List V} {res : V} (h : G ⟨Go.Proofs.Tryd.prog, gp, 0, [(RV.cell 4 7 true), (RV.t 5)], fun r c => r = res ∧ c = [], false⟩ [.code f21_c12, .fin] ⟨args ++ List.replicate (20 - args.length) .un, []⟩) : Does Go.Proofs.Tryd.prog gp 21 args res :=
  does_intro f21_ok Go.Proofs.Tryd.func21 f21_body f21_tr f21_rs (by rw [f21_nt]; exact h)
theorem f21_tri {gp : Heap} {args : List V} {pre : List Ch} {R : V → List Ch → Prop} (h : G ⟨Go.Proofs.Tryd.prog, gp, pre.length, [(RV.cell 4 7 true), (RV.t 5)], R, false⟩ [.code f21_c12, .fin] ⟨args ++ List.replicate (20 - args.length) .un, pre⟩) : Tri Go.Proofs.Tryd.prog gp 21 args pre R :=
  tri_intro Go.Proofs.Tryd.func21 f21_body f21_tr f21_rs (by rw [f21_nt]; exact h)

/-! slices.Clone[[]int,int] -/
def f22_r0 : List MO := [
(Qa (Qp 2) (Qc (Qi (Qj A.nil))))]
def f22_c0 : MC := .reg false f22_r0
def f22_r1 : List MO := [
(Qa (Qp 3) (Qc (Qh 0))),
(Qa (Qp 4) (MOp.nilq NK.sl false (Qh 3)))]
def f22_c1 : MC := .reg false f22_r1
def f22_r2 : List MO := [
(Qa (Qp 2) (Qc (Qi (Qj A.nil))))]
def f22_c2 : MC := .reg false f22_r2
def f22_c3 : MC := MC.ret
def f22_c4 : MC := .seq f22_c2 f22_c3
def f22_c5 : MC := MC.skip
def f22_c6 : MC := .cond (Qh 4) f22_c4 f22_c5
def f22_c7 : MC := .seq f22_c1 f22_c6
def f22_r8 : List MO := [
(Qa (Qp 5) (MOp.bslO 1 [(Ql Qo 0)] 0 [])),
(Qa (Qp 6) (Qc (Qh 0))),
(Qa (Qp 7) (MOp.app 1 8 (Qh 5) (Qh 6))),
(Qa (Qp 2) (Qc (Qh 7)))]
def f22_c8 : MC := .reg false f22_r8
def f22_c9 : MC := MC.ret
def f22_c10 : MC := .seq f22_c8 f22_c9
def f22_c11 : MC := .seq f22_c7 f22_c10
def f22_c12 : MC := .seq f22_c0 f22_c11
noncomputable def f22_code : Code := (Go.Proofs.Tryd.f22.body).getD .skip
theorem f22_body : Go.Proofs.Tryd.f22.body = Qp f22_code := by kernel_rfl
theorem f22_tr : trC Go.Proofs.Tryd.prog [5] f22_code = Qp f22_c12 := by kernel_rfl
theorem f22_rs : rsOf Go.Proofs.Tryd.prog Go.Proofs.Tryd.f22.results.toList = Qp [(RV.t 2)] := by kernel_rfl
theorem f22_nt : Go.Proofs.Tryd.f22.ntmps = 8 := by kernel_rfl
theorem f22_ok : callable Go.Proofs.Tryd.prog 22 = true := by kernel_rfl
theorem f22_in {gp : Heap} {args : List V} {res : V} (h : G ⟨Go.Proofs.Tryd.prog, gp, 0, [(RV.t 2)], fun r c => r = res ∧ c = [], false⟩ [.code f22_c12, .fin] ⟨args ++ List.replicate (8 - args.length) .un, []⟩) : Does Go.Proofs.Tryd.prog gp 22 args res :=
  does_intro f22_ok Go.Proofs.Tryd.func22 f22_body f22_tr f22_rs (by rw [f22_nt]; exact h)
theorem f22_tri {gp : Heap} {args : List V} {pre : List Ch} {R : V → List Ch → Prop} (h : G ⟨Go.Proofs.Tryd.prog, gp, pre.length, [(RV.t 2)], R, false⟩ [.code f22_c12, .fin] ⟨args ++ List.replicate (8 - args.length) .un, pre⟩) : Tri Go.Proofs.Tryd.prog gp 22 args pre R :=
  tri_intro Go.Proofs.Tryd.func22 f22_body f22_tr f22_rs (by rw [f22_nt]; exact h)

/-! (sigillary/arena.view).pairs -/
def f23_r0 : List MO := [
(Qa (Qp 1) (MOp.ibox (Qh 0))),
(Qa (Qp 2) (Qc (Qi (Qj A.nil))))]
def f23_c0 : MC := .reg false f23_r0
def f23_r1 : List MO := [
(Qa (Qp 6) (Qf 0 (Qh 1))),
(Qa (Qp 7) (Qf 0 (Qh 6))),
(Qa (Qp 8) (Qe 1 false (Qh 7))),
(Qa (Qp 9) (Qd Qn Go.BinOp.neq (Qh 8) (Qi (Qj (Qk (Ql Qo 2)))))),
(Qa (Qp 10) (Qc (Qh 9))),
(Qb 10 false (Qp 11)),
(Qa (Qp 11) (Qe 7 true (Qh 1))),
(Qb 10 false (Qp 12)),
(Qa (Qp 12) (Qg 36 [(Qh 11)])),
(Qb 10 false (Qp 13)),
(Qa (Qp 13) (MOp.not (Qh 12))),
(Qa (Qp 14) (MOp.pick (Qh 10) (Qi (Qj (Qk (Qm true)))) (Qh 13)))]
def f23_c1 : MC := .reg false f23_r1
def f23_r2 : List MO := [
(Qa (Qp 2) (Qc (Qi (Qj A.nil))))]
def f23_c2 : MC := .reg false f23_r2
def f23_c3 : MC := MC.ret
def f23_c4 : MC := .seq f23_c2 f23_c3
def f23_c5 : MC := MC.skip
def f23_c6 : MC := .cond (Qh 14) f23_c4 f23_c5
def f23_c7 : MC := .seq f23_c1 f23_c6
def f23_r8 : List MO := [
(Qa (Qp 3) (Qc (Qi (Qj A.nil))))]
def f23_c8 : MC := .reg false f23_r8
def f23_r9 : List MO := [
(Qa (Qp 15) (Qf 0 (Qh 1))),
(Qa (Qp 16) (Qf 4 (Qh 15))),
(Qa (Qp 17) (Qe 1 false (Qh 16))),
(Qa (Qp 18) (MOp.len Qn (Qh 17))),
(Qa (Qp 19) (Qc (Qi (Qj (Qk (Ql Qo 0))))))]
def f23_c9 : MC := .reg false f23_r9
def f23_r10 : List MO := [
(Qa (Qp 20) (Qd Qn Go.BinOp.lss (Qh 19) (Qh 18)))]
def f23_c10 : MC := .reg false f23_r10
def f23_c11 : MC := MC.skip
def f23_c12 : MC := (MC.exit 0)
def f23_c13 : MC := .cond (Qh 20) f23_c11 f23_c12
def f23_r14 : List MO := [
(Qa (Qp 21) (Qc (Qh 19))),
(Qa (Qp 22) (MOp.iad 3 (Qh 17) (Qh 19))),
(Qa (Qp 23) (Qe 3 true (Qh 22))),
(Qa (Qp 5) (MOp.alloc [(Ql Qo 0), (Ql Qo 0), (D.str (ByteArray.mk #[]))])),
(Qa (Qp 4) (Qc (Qh 21))),
(Qa none (MOp.store 3 (Qh 5) (Qh 23)))]
def f23_c14 : MC := .reg false f23_r14
def f23_r15 : List MO := [
(Qa (Qp 24) (Qc (Qh 3))),
(Qa (Qp 25) (Qe 3 true (Qh 5))),
(Qa (Qp 26) (Qf 0 (Qh 1))),
(Qa (Qp 27) (Qf 5 (Qh 26))),
(Qa (Qp 28) (Qe 1 false (Qh 27))),
(Qa (Qp 29) (Qc (Qh 4))),
(Qa (Qp 30) (MOp.iad 1 (Qh 28) (Qh 29))),
(Qa (Qp 31) (Qe 1 false (Qh 30))),
(Qa (Qp 32) (MOp.build [(Ql Qo 0), (Ql Qo 0), (D.str (ByteArray.mk #[])), (Ql Qo 0)] [(0, (3, (Qh 25))), (3, (1, (Qh 31)))])),
(Qa (Qp 33) (MOp.bslice 4 [(Ql Qo 0), (Ql Qo 0), (D.str (ByteArray.mk #[])), (Ql Qo 0)] 1 [(0, (Qh 32))])),
(Qa (Qp 34) (MOp.app 4 40 (Qh 24) (Qh 33))),
(Qa (Qp 3) (Qc (Qh 34)))]
def f23_c15 : MC := .reg true f23_r15
def f23_c16 : MC := .seq f23_c14 f23_c15
def f23_c17 : MC := .blk 1 f23_c16
def f23_r18 : List MO := [
(Qa (Qp 35) (Qd Qn Go.BinOp.add (Qh 19) (Qi (Qj (Qk (Ql Qo 1)))))),
(Qa (Qp 19) (Qc (Qh 35)))]
def f23_c18 : MC := .reg false f23_r18
def f23_c19 : MC := .seq f23_c17 f23_c18
def f23_c20 : MC := .seq f23_c13 f23_c19
def f23_c21 : MC := .seq f23_c10 f23_c20
def f23_c22 : MC := .loop f23_c21
def f23_c23 : MC := .blk 0 f23_c22
def f23_c24 : MC := .seq f23_c9 f23_c23
def f23_r25 : List MO := [
(Qa (Qp 36) (Qc (Qh 3))),
(Qa (Qp 37) (Qg 37 [(Qh 36), (Qi (Qj (Qk (D.fn (Go.Fn.func 38) []))))]))]
def f23_c25 : MC := .reg false f23_r25
def f23_r26 : List MO := [
(Qa (Qp 38) (Qc (Qh 3))),
(Qa (Qp 2) (Qc (Qh 38)))]
def f23_c26 : MC := .reg false f23_r26
def f23_c27 : MC := MC.ret
def f23_c28 : MC := .seq f23_c26 f23_c27
def f23_c29 : MC := .seq f23_c25 f23_c28
def f23_c30 : MC := .seq f23_c24 f23_c29
def f23_c31 : MC := .seq f23_c8 f23_c30
def f23_c32 : MC := .seq f23_c7 f23_c31
def f23_c33 : MC := .seq f23_c0 f23_c32
noncomputable def f23_code : Code := (Go.Proofs.Tryd.f23.body).getD .skip
theorem f23_body : Go.Proofs.Tryd.f23.body = Qp f23_code := by kernel_rfl
theorem f23_tr : trC Go.Proofs.Tryd.prog [1] f23_code = Qp f23_c33 := by kernel_rfl
theorem f23_rs : rsOf Go.Proofs.Tryd.prog Go.Proofs.Tryd.f23.results.toList = Qp [(RV.t 2)] := by kernel_rfl
theorem f23_nt : Go.Proofs.Tryd.f23.ntmps = 39 := by kernel_rfl
theorem f23_ok : callable Go.Proofs.Tryd.prog 23 = true := by kernel_rfl
theorem f23_in {gp : Heap} {args : List V} {res : V} (h : G ⟨Go.Proofs.Tryd.prog, gp, 0, [(RV.t 2)], fun r c => r = res ∧ c = [], false⟩ [.code f23_c33, .fin] ⟨args ++ List.replicate (39 - args.length) .un, []⟩) : Does Go.Proofs.Tryd.prog gp 23 args res :=
  does_intro f23_ok Go.Proofs.Tryd.func23 f23_body f23_tr f23_rs (by rw [f23_nt]; exact h)
theorem f23_tri {gp : Heap} {args : List V} {pre : List Ch} {R : V → List Ch → Prop} (h : G ⟨Go.Proofs.Tryd.prog, gp, pre.length, [(RV.t 2)], R, false⟩ [.code f23_c33, .fin] ⟨args ++ List.replicate (39 - args.length) .un, pre⟩) : Tri Go.Proofs.Tryd.prog gp 23 args pre R :=
  tri_intro Go.Proofs.Tryd.func23 f23_body f23_tr f23_rs (by rw [f23_nt]; exact h)

/-! cmp.Or[int] -/
def f24_r0 : List MO := [
(Qa (Qp 2) (Qc (Qi (Qj (Qk (Ql Qo 0))))))]
def f24_c0 : MC := .reg false f24_r0
def f24_r1 : List MO := [
(Qa (Qp 3) (Qc (Qi (Qj (Qk (Ql Qo 0))))))]
def f24_c1 : MC := .reg false f24_r1
def f24_r2 : List MO := [
(Qa (Qp 6) (Qc (Qh 0))),
(Qa (Qp 7) (MOp.len Qn (Qh 6))),
(Qa (Qp 8) (Qc (Qi (Qj (Qk (Ql Qo 0))))))]
def f24_c2 : MC := .reg false f24_r2
def f24_r3 : List MO := [
(Qa (Qp 9) (Qd Qn Go.BinOp.lss (Qh 8) (Qh 7)))]
def f24_c3 : MC := .reg false f24_r3
def f24_c4 : MC := MC.skip
def f24_c5 : MC := (MC.exit 0)
def f24_c6 : MC := .cond (Qh 9) f24_c4 f24_c5
def f24_r7 : List MO := [
(Qa (Qp 10) (MOp.iad 1 (Qh 6) (Qh 8))),
(Qa (Qp 11) (Qe 1 false (Qh 10))),
(Qa (Qp 5) (Qc (Qh 11)))]
def f24_c7 : MC := .reg false f24_r7
def f24_r8 : List MO := [
(Qa (Qp 12) (Qc (Qh 5))),
(Qa (Qp 13) (Qc (Qh 3))),
(Qa (Qp 14) (Qd Qn Go.BinOp.neq (Qh 12) (Qh 13)))]
def f24_c8 : MC := .reg false f24_r8
def f24_r9 : List MO := [
(Qa (Qp 15) (Qc (Qh 5))),
(Qa (Qp 2) (Qc (Qh 15)))]
def f24_c9 : MC := .reg false f24_r9
def f24_c10 : MC := MC.ret
def f24_c11 : MC := .seq f24_c9 f24_c10
def f24_c12 : MC := MC.skip
def f24_c13 : MC := .cond (Qh 14) f24_c11 f24_c12
def f24_c14 : MC := .seq f24_c8 f24_c13
def f24_c15 : MC := .seq f24_c7 f24_c14
def f24_c16 : MC := .blk 1 f24_c15
def f24_r17 : List MO := [
(Qa (Qp 16) (Qd Qn Go.BinOp.add (Qh 8) (Qi (Qj (Qk (Ql Qo 1)))))),
(Qa (Qp 8) (Qc (Qh 16)))]
def f24_c17 : MC := .reg false f24_r17
def f24_c18 : MC := .seq f24_c16 f24_c17
def f24_c19 : MC := .seq f24_c6 f24_c18
def f24_c20 : MC := .seq f24_c3 f24_c19
def f24_c21 : MC := .loop f24_c20
def f24_c22 : MC := .blk 0 f24_c21
def f24_c23 : MC := .seq f24_c2 f24_c22
def f24_r24 : List MO := [
(Qa (Qp 17) (Qc (Qh 3))),
(Qa (Qp 2) (Qc (Qh 17)))]
def f24_c24 : MC := .reg false f24_r24
def f24_c25 : MC := MC.ret
def f24_c26 : MC := .seq f24_c24 f24_c25
def f24_c27 : MC := .seq f24_c23 f24_c26
def f24_c28 : MC := .seq f24_c1 f24_c27
def f24_c29 : MC := .seq f24_c0 f24_c28
noncomputable def f24_code : Code := (Go.Proofs.Tryd.f24.body).getD .skip
theorem f24_body : Go.Proofs.Tryd.f24.body = Qp f24_code := by kernel_rfl
theorem f24_tr : trC Go.Proofs.Tryd.prog [] f24_code = Qp f24_c29 := by kernel_rfl
theorem f24_rs : rsOf Go.Proofs.Tryd.prog Go.Proofs.Tryd.f24.results.toList = Qp [(RV.t 2)] := by kernel_rfl
theorem f24_nt : Go.Proofs.Tryd.f24.ntmps = 18 := by kernel_rfl
theorem f24_ok : callable Go.Proofs.Tryd.prog 24 = true := by kernel_rfl
theorem f24_in {gp : Heap} {args : List V} {res : V} (h : G ⟨Go.Proofs.Tryd.prog, gp, 0, [(RV.t 2)], fun r c => r = res ∧ c = [], false⟩ [.code f24_c29, .fin] ⟨args ++ List.replicate (18 - args.length) .un, []⟩) : Does Go.Proofs.Tryd.prog gp 24 args res :=
  does_intro f24_ok Go.Proofs.Tryd.func24 f24_body f24_tr f24_rs (by rw [f24_nt]; exact h)
theorem f24_tri {gp : Heap} {args : List V} {pre : List Ch} {R : V → List Ch → Prop} (h : G ⟨Go.Proofs.Tryd.prog, gp, pre.length, [(RV.t 2)], R, false⟩ [.code f24_c29, .fin] ⟨args ++ List.replicate (18 - args.length) .un, pre⟩) : Tri Go.Proofs.Tryd.prog gp 24 args pre R :=
  tri_intro Go.Proofs.Tryd.func24 f24_body f24_tr f24_rs (by rw [f24_nt]; exact h)

/-! cmp.Compare[int] -/
def f25_r0 : List MO := [
(Qa (Qp 4) (Qc (Qi (Qj (Qk (Ql Qo 0))))))]
def f25_c0 : MC := .reg false f25_r0
def f25_r1 : List MO := [
(Qa (Qp 7) (Qc (Qh 0))),
(Qa (Qp 8) (Qg 39 [(Qh 7)])),
(Qa (Qp 5) (Qc (Qh 8)))]
def f25_c1 : MC := .reg false f25_r1
def f25_r2 : List MO := [
(Qa (Qp 9) (Qc (Qh 1))),
(Qa (Qp 10) (Qg 39 [(Qh 9)])),
(Qa (Qp 6) (Qc (Qh 10)))]
def f25_c2 : MC := .reg false f25_r2
def f25_r3 : List MO := [
(Qa (Qp 11) (Qc (Qh 5)))]
def f25_c3 : MC := .reg false f25_r3
def f25_r4 : List MO := [
(Qa (Qp 12) (Qc (Qh 6)))]
def f25_c4 : MC := .reg false f25_r4
def f25_r5 : List MO := [
(Qa (Qp 4) (Qc (Qi (Qj (Qk (Ql Qo 0))))))]
def f25_c5 : MC := .reg false f25_r5
def f25_c6 : MC := MC.ret
def f25_c7 : MC := .seq f25_c5 f25_c6
def f25_c8 : MC := MC.skip
def f25_c9 : MC := .cond (Qh 12) f25_c7 f25_c8
def f25_c10 : MC := .seq f25_c4 f25_c9
def f25_r11 : List MO := [
(Qa (Qp 4) (Qc (Qi (Qj (Qk (Ql Qo (-1)))))))]
def f25_c11 : MC := .reg false f25_r11
def f25_c12 : MC := MC.ret
def f25_c13 : MC := .seq f25_c11 f25_c12
def f25_c14 : MC := .seq f25_c10 f25_c13
def f25_c15 : MC := MC.skip
def f25_c16 : MC := .cond (Qh 11) f25_c14 f25_c15
def f25_c17 : MC := .seq f25_c3 f25_c16
def f25_r18 : List MO := [
(Qa (Qp 13) (Qc (Qh 6)))]
def f25_c18 : MC := .reg false f25_r18
def f25_r19 : List MO := [
(Qa (Qp 4) (Qc (Qi (Qj (Qk (Ql Qo 1))))))]
def f25_c19 : MC := .reg false f25_r19
def f25_c20 : MC := MC.ret
def f25_c21 : MC := .seq f25_c19 f25_c20
def f25_c22 : MC := MC.skip
def f25_c23 : MC := .cond (Qh 13) f25_c21 f25_c22
def f25_c24 : MC := .seq f25_c18 f25_c23
def f25_r25 : List MO := [
(Qa (Qp 14) (Qc (Qh 0))),
(Qa (Qp 15) (Qc (Qh 1))),
(Qa (Qp 16) (Qd Qn Go.BinOp.lss (Qh 14) (Qh 15)))]
def f25_c25 : MC := .reg false f25_r25
def f25_r26 : List MO := [
(Qa (Qp 4) (Qc (Qi (Qj (Qk (Ql Qo (-1)))))))]
def f25_c26 : MC := .reg false f25_r26
def f25_c27 : MC := MC.ret
def f25_c28 : MC := .seq f25_c26 f25_c27
def f25_c29 : MC := MC.skip
def f25_c30 : MC := .cond (Qh 16) f25_c28 f25_c29
def f25_c31 : MC := .seq f25_c25 f25_c30
def f25_r32 : List MO := [
(Qa (Qp 17) (Qc (Qh 0))),
(Qa (Qp 18) (Qc (Qh 1))),
(Qa (Qp 19) (Qd Qn Go.BinOp.gtr (Qh 17) (Qh 18)))]
def f25_c32 : MC := .reg false f25_r32
def f25_r33 : List MO := [
(Qa (Qp 4) (Qc (Qi (Qj (Qk (Ql Qo 1))))))]
def f25_c33 : MC := .reg false f25_r33
def f25_c34 : MC := MC.ret
def f25_c35 : MC := .seq f25_c33 f25_c34
def f25_c36 : MC := MC.skip
def f25_c37 : MC := .cond (Qh 19) f25_c35 f25_c36
def f25_c38 : MC := .seq f25_c32 f25_c37
def f25_r39 : List MO := [
(Qa (Qp 4) (Qc (Qi (Qj (Qk (Ql Qo 0))))))]
def f25_c39 : MC := .reg false f25_r39
def f25_c40 : MC := MC.ret
def f25_c41 : MC := .seq f25_c39 f25_c40
def f25_c42 : MC := .seq f25_c38 f25_c41
def f25_c43 : MC := .seq f25_c31 f25_c42
def f25_c44 : MC := .seq f25_c24 f25_c43
def f25_c45 : MC := .seq f25_c17 f25_c44
def f25_c46 : MC := .seq f25_c2 f25_c45
def f25_c47 : MC := .seq f25_c1 f25_c46
def f25_c48 : MC := .seq f25_c0 f25_c47
noncomputable def f25_code : Code := (Go.Proofs.Tryd.f25.body).getD .skip
theorem f25_body : Go.Proofs.Tryd.f25.body = Qp f25_code := by kernel_rfl
theorem f25_tr : trC Go.Proofs.Tryd.prog [] f25_code = Qp f25_c48 := by kernel_rfl
theorem f25_rs : rsOf Go.Proofs.Tryd.prog Go.Proofs.Tryd.f25.results.toList = Qp [(RV.t 4)] := by kernel_rfl
theorem f25_nt : Go.Proofs.Tryd.f25.ntmps = 20 := by kernel_rfl
theorem f25_ok : callable Go.Proofs.Tryd.prog 25 = true := by kernel_rfl
theorem f25_in {gp : Heap} {args : List V} {res : V} (h : G ⟨Go.Proofs.Tryd.prog, gp, 0, [(RV.t 4)], fun r c => r = res ∧ c = [], false⟩ [.code f25_c48, .fin] ⟨args ++ List.replicate (20 - args.length) .un, []⟩) : Does Go.Proofs.Tryd.prog gp 25 args res :=
  does_intro f25_ok Go.Proofs.Tryd.func25 f25_body f25_tr f25_rs (by rw [f25_nt]; exact h)
theorem f25_tri {gp : Heap} {args : List V} {pre : List Ch} {R : V → List Ch → Prop} (h : G ⟨Go.Proofs.Tryd.prog, gp, pre.length, [(RV.t 4)], R, false⟩ [.code f25_c48, .fin] ⟨args ++ List.replicate (20 - args.length) .un, pre⟩) : Tri Go.Proofs.Tryd.prog gp 25 args pre R :=
  tri_intro Go.Proofs.Tryd.func25 f25_body f25_tr f25_rs (by rw [f25_nt]; exact h)

/-! cmp.Compare[string] -/
def f26_r0 : List MO := [
(Qa (Qp 4) (Qc (Qi (Qj (Qk (Ql Qo 0))))))]
def f26_c0 : MC := .reg false f26_r0
def f26_r1 : List MO := [
(Qa (Qp 7) (Qc (Qh 0))),
(Qa (Qp 8) (Qg 40 [(Qh 7)])),
(Qa (Qp 5) (Qc (Qh 8)))]
def f26_c1 : MC := .reg false f26_r1
def f26_r2 : List MO := [
(Qa (Qp 9) (Qc (Qh 1))),
(Qa (Qp 10) (Qg 40 [(Qh 9)])),
(Qa (Qp 6) (Qc (Qh 10)))]
def f26_c2 : MC := .reg false f26_r2
def f26_r3 : List MO := [
(Qa (Qp 11) (Qc (Qh 5)))]
def f26_c3 : MC := .reg false f26_r3
def f26_r4 : List MO := [
(Qa (Qp 12) (Qc (Qh 6)))]
def f26_c4 : MC := .reg false f26_r4
def f26_r5 : List MO := [
(Qa (Qp 4) (Qc (Qi (Qj (Qk (Ql Qo 0))))))]
def f26_c5 : MC := .reg false f26_r5
def f26_c6 : MC := MC.ret
def f26_c7 : MC := .seq f26_c5 f26_c6
def f26_c8 : MC := MC.skip
def f26_c9 : MC := .cond (Qh 12) f26_c7 f26_c8
def f26_c10 : MC := .seq f26_c4 f26_c9
def f26_r11 : List MO := [
(Qa (Qp 4) (Qc (Qi (Qj (Qk (Ql Qo (-1)))))))]
def f26_c11 : MC := .reg false f26_r11
def f26_c12 : MC := MC.ret
def f26_c13 : MC := .seq f26_c11 f26_c12
def f26_c14 : MC := .seq f26_c10 f26_c13
def f26_c15 : MC := MC.skip
def f26_c16 : MC := .cond (Qh 11) f26_c14 f26_c15
def f26_c17 : MC := .seq f26_c3 f26_c16
def f26_r18 : List MO := [
(Qa (Qp 13) (Qc (Qh 6)))]
def f26_c18 : MC := .reg false f26_r18
def f26_r19 : List MO := [
(Qa (Qp 4) (Qc (Qi (Qj (Qk (Ql Qo 1))))))]
def f26_c19 : MC := .reg false f26_r19
def f26_c20 : MC := MC.ret
def f26_c21 : MC := .seq f26_c19 f26_c20
def f26_c22 : MC := MC.skip
def f26_c23 : MC := .cond (Qh 13) f26_c21 f26_c22
def f26_c24 : MC := .seq f26_c18 f26_c23
def f26_r25 : List MO := [
(Qa (Qp 14) (Qc (Qh 0))),
(Qa (Qp 15) (Qc (Qh 1))),
(Qa (Qp 16) (Qd Leaf.s Go.BinOp.lss (Qh 14) (Qh 15)))]
def f26_c25 : MC := .reg false f26_r25
def f26_r26 : List MO := [
(Qa (Qp 4) (Qc (Qi (Qj (Qk (Ql Qo (-1)))))))]
def f26_c26 : MC := .reg false f26_r26
def f26_c27 : MC := MC.ret
def f26_c28 : MC := .seq f26_c26 f26_c27
def f26_c29 : MC := MC.skip
def f26_c30 : MC := .cond (Qh 16) f26_c28 f26_c29
def f26_c31 : MC := .seq f26_c25 f26_c30
def f26_r32 : List MO := [
(Qa (Qp 17) (Qc (Qh 0))),
(Qa (Qp 18) (Qc (Qh 1))),
(Qa (Qp 19) (Qd Leaf.s Go.BinOp.gtr (Qh 17) (Qh 18)))]
def f26_c32 : MC := .reg false f26_r32
def f26_r33 : List MO := [
(Qa (Qp 4) (Qc (Qi (Qj (Qk (Ql Qo 1))))))]
def f26_c33 : MC := .reg false f26_r33
def f26_c34 : MC := MC.ret
def f26_c35 : MC := .seq f26_c33 f26_c34
def f26_c36 : MC := MC.skip
def f26_c37 : MC := .cond (Qh 19) f26_c35 f26_c36
def f26_c38 : MC := .seq f26_c32 f26_c37
def f26_r39 : List MO := [
(Qa (Qp 4) (Qc (Qi (Qj (Qk (Ql Qo 0))))))]
def f26_c39 : MC := .reg false f26_r39
def f26_c40 : MC := MC.ret
def f26_c41 : MC := .seq f26_c39 f26_c40
def f26_c42 : MC := .seq f26_c38 f26_c41
def f26_c43 : MC := .seq f26_c31 f26_c42
def f26_c44 : MC := .seq f26_c24 f26_c43
def f26_c45 : MC := .seq f26_c17 f26_c44
def f26_c46 : MC := .seq f26_c2 f26_c45
def f26_c47 : MC := .seq f26_c1 f26_c46
def f26_c48 : MC := .seq f26_c0 f26_c47
noncomputable def f26_code : Code := (Go.Proofs.Tryd.f26.body).getD .skip
theorem f26_body : Go.Proofs.Tryd.f26.body = Qp f26_code := by kernel_rfl
theorem f26_tr : trC Go.Proofs.Tryd.prog [] f26_code = Qp f26_c48 := by kernel_rfl
theorem f26_rs : rsOf Go.Proofs.Tryd.prog Go.Proofs.Tryd.f26.results.toList = Qp [(RV.t 4)] := by kernel_rfl
theorem f26_nt : Go.Proofs.Tryd.f26.ntmps = 20 := by kernel_rfl
theorem f26_ok : callable Go.Proofs.Tryd.prog 26 = true := by kernel_rfl
theorem f26_in {gp : Heap} {args : List V} {res : V} (h : G ⟨Go.Proofs.Tryd.prog, gp, 0, [(RV.t 4)], fun r c => r = res ∧ c = [], false⟩ [.code f26_c48, .fin] ⟨args ++ List.replicate (20 - args.length) .un, []⟩) : Does Go.Proofs.Tryd.prog gp 26 args res :=
  does_intro f26_ok Go.Proofs.Tryd.func26 f26_body f26_tr f26_rs (by rw [f26_nt]; exact h)
theorem f26_tri {gp : Heap} {args : List V} {pre : List Ch} {R : V → List Ch → Prop} (h : G ⟨Go.Proofs.Tryd.prog, gp, pre.length, [(RV.t 4)], R, false⟩ [.code f26_c48, .fin] ⟨args ++ List.replicate (20 - args.length) .un, pre⟩) : Tri Go.Proofs.Tryd.prog gp 26 args pre R :=
  tri_intro Go.Proofs.Tryd.func26 f26_body f26_tr f26_rs (by rw [f26_nt]; exact h)

/-! sigillary/sigillarylaw06.cut -/
def f27_r0 : List MO := [
(Qa (Qp 2) (Qc (Qi (Qj (Qk (D.str (ByteArray.mk #[])))))))]
def f27_c0 : MC := .reg false f27_r0
def f27_r1 : List MO := [
(Qa (Qp 3) (Qc (Qh 0))),
(Qa (Qp 4) (Qc (Qh 0))),
(Qa (Qp 5) (MOp.len Leaf.s (Qh 4))),
(Qa (Qp 6) (MOp.min (Qh 5) (Qi (Qj (Qk (Ql Qo 100)))))),
(Qa (Qp 7) (MOp.slcS (Qh 3) none (Qp (Qh 6)))),
(Qa (Qp 2) (Qc (Qh 7)))]
def f27_c1 : MC := .reg false f27_r1
def f27_c2 : MC := MC.ret
def f27_c3 : MC := .seq f27_c1 f27_c2
def f27_c4 : MC := .seq f27_c0 f27_c3
noncomputable def f27_code : Code := (Go.Proofs.Tryd.f27.body).getD .skip
theorem f27_body : Go.Proofs.Tryd.f27.body = Qp f27_code := by kernel_rfl
theorem f27_tr : trC Go.Proofs.Tryd.prog [] f27_code = Qp f27_c4 := by kernel_rfl
theorem f27_rs : rsOf Go.Proofs.Tryd.prog Go.Proofs.Tryd.f27.results.toList = Qp [(RV.t 2)] := by kernel_rfl
theorem f27_nt : Go.Proofs.Tryd.f27.ntmps = 8 := by kernel_rfl
theorem f27_ok : callable Go.Proofs.Tryd.prog 27 = true := by kernel_rfl
theorem f27_in {gp : Heap} {args : List V} {res : V} (h : G ⟨Go.Proofs.Tryd.prog, gp, 0, [(RV.t 2)], fun r c => r = res ∧ c = [], false⟩ [.code f27_c4, .fin] ⟨args ++ List.replicate (8 - args.length) .un, []⟩) : Does Go.Proofs.Tryd.prog gp 27 args res :=
  does_intro f27_ok Go.Proofs.Tryd.func27 f27_body f27_tr f27_rs (by rw [f27_nt]; exact h)
theorem f27_tri {gp : Heap} {args : List V} {pre : List Ch} {R : V → List Ch → Prop} (h : G ⟨Go.Proofs.Tryd.prog, gp, pre.length, [(RV.t 2)], R, false⟩ [.code f27_c4, .fin] ⟨args ++ List.replicate (8 - args.length) .un, pre⟩) : Tri Go.Proofs.Tryd.prog gp 27 args pre R :=
  tri_intro Go.Proofs.Tryd.func27 f27_body f27_tr f27_rs (by rw [f27_nt]; exact h)

/-! sigillary/arena.Same$1 -/
def f28_r0 : List MO := [
(Qa (Qp 2) (MOp.ibox (Qh 0))),
(Qa (Qp 3) (MOp.ibox (Qh 1))),
(Qa (Qp 4) (Qc (Qi (Qj (Qk (Qm false))))))]
def f28_c0 : MC := .reg false f28_r0
def f28_r1 : List MO := [
(Qa (Qp 5) (Qf 0 (Qh 2))),
(Qa (Qp 6) (Qe 1 false (Qh 5))),
(Qa (Qp 7) (Qf 0 (Qh 3))),
(Qa (Qp 8) (Qe 1 false (Qh 7))),
(Qa (Qp 9) (Qd Qn Go.BinOp.eql (Qh 6) (Qh 8))),
(Qa (Qp 10) (Qc (Qh 9))),
(Qb 10 true (Qp 11)),
(Qa (Qp 11) (Qf 1 (Qh 2))),
(Qb 10 true (Qp 12)),
(Qa (Qp 12) (Qe 3 true (Qh 11))),
(Qb 10 true (Qp 13)),
(Qa (Qp 13) (Qf 1 (Qh 3))),
(Qb 10 true (Qp 14)),
(Qa (Qp 14) (Qe 3 true (Qh 13))),
(Qb 10 true (Qp 15)),
(Qa (Qp 15) (MOp.eqs false [Qn, Qn, Leaf.s] (Qh 12) (Qh 14))),
(Qa (Qp 16) (MOp.pick (Qh 10) (Qh 15) (Qi (Qj (Qk (Qm false)))))),
(Qa (Qp 17) (Qc (Qh 16))),
(Qb 17 true (Qp 18)),
(Qa (Qp 18) (Qf 4 (Qh 2))),
(Qb 17 true (Qp 19)),
(Qa (Qp 19) (Qe 1 false (Qh 18))),
(Qb 17 true (Qp 20)),
(Qa (Qp 20) (Qf 4 (Qh 3))),
(Qb 17 true (Qp 21)),
(Qa (Qp 21) (Qe 1 false (Qh 20))),
(Qb 17 true (Qp 22)),
(Qa (Qp 22) (Qg 29 [(Qh 19), (Qh 21)])),
(Qa (Qp 23) (MOp.pick (Qh 17) (Qh 22) (Qi (Qj (Qk (Qm false)))))),
(Qa (Qp 24) (Qc (Qh 23))),
(Qb 24 true (Qp 25)),
(Qa (Qp 25) (Qf 5 (Qh 2))),
(Qb 24 true (Qp 26)),
(Qa (Qp 26) (Qe 1 false (Qh 25))),
(Qb 24 true (Qp 27)),
(Qa (Qp 27) (Qf 5 (Qh 3))),
(Qb 24 true (Qp 28)),
(Qa (Qp 28) (Qe 1 false (Qh 27))),
(Qb 24 true (Qp 29)),
(Qa (Qp 29) (Qg 30 [(Qh 26), (Qh 28)])),
(Qa (Qp 30) (MOp.pick (Qh 24) (Qh 29) (Qi (Qj (Qk (Qm false)))))),
(Qa (Qp 4) (Qc (Qh 30)))]
def f28_c1 : MC := .reg false f28_r1
def f28_c2 : MC := MC.ret
def f28_c3 : MC := .seq f28_c1 f28_c2
def f28_c4 : MC := .seq f28_c0 f28_c3
noncomputable def f28_code : Code := (Go.Proofs.Tryd.f28.body).getD .skip
theorem f28_body : Go.Proofs.Tryd.f28.body = Qp f28_code := by kernel_rfl
theorem f28_tr : trC Go.Proofs.Tryd.prog [2, 3] f28_code = Qp f28_c4 := by kernel_rfl
theorem f28_rs : rsOf Go.Proofs.Tryd.prog Go.Proofs.Tryd.f28.results.toList = Qp [(RV.t 4)] := by kernel_rfl
theorem f28_nt : Go.Proofs.Tryd.f28.ntmps = 31 := by kernel_rfl
theorem f28_ok : callable Go.Proofs.Tryd.prog 28 = true := by kernel_rfl
theorem f28_in {gp : Heap} {args : List V} {res : V} (h : G ⟨Go.Proofs.Tryd.prog, gp, 0, [(RV.t 4)], fun r c => r = res ∧ c = [], false⟩ [.code f28_c4, .fin] ⟨args ++ List.replicate (31 - args.length) .un, []⟩) : Does Go.Proofs.Tryd.prog gp 28 args res :=
  does_intro f28_ok Go.Proofs.Tryd.func28 f28_body f28_tr f28_rs (by rw [f28_nt]; exact h)
theorem f28_tri {gp : Heap} {args : List V} {pre : List Ch} {R : V → List Ch → Prop} (h : G ⟨Go.Proofs.Tryd.prog, gp, pre.length, [(RV.t 4)], R, false⟩ [.code f28_c4, .fin] ⟨args ++ List.replicate (31 - args.length) .un, pre⟩) : Tri Go.Proofs.Tryd.prog gp 28 args pre R :=
  tri_intro Go.Proofs.Tryd.func28 f28_body f28_tr f28_rs (by rw [f28_nt]; exact h)

/-! slices.Equal[[]sigillary/api.Scalar,sigillary/api.Scalar] -/
def f29_r0 : List MO := [
(Qa (Qp 4) (Qc (Qi (Qj (Qk (Qm false))))))]
def f29_c0 : MC := .reg false f29_r0
def f29_r1 : List MO := [
(Qa (Qp 6) (Qc (Qh 0))),
(Qa (Qp 7) (MOp.len Qn (Qh 6))),
(Qa (Qp 8) (Qc (Qh 1))),
(Qa (Qp 9) (MOp.len Qn (Qh 8))),
(Qa (Qp 10) (Qd Qn Go.BinOp.neq (Qh 7) (Qh 9)))]
def f29_c1 : MC := .reg false f29_r1
def f29_r2 : List MO := [
(Qa (Qp 4) (Qc (Qi (Qj (Qk (Qm false))))))]
def f29_c2 : MC := .reg false f29_r2
def f29_c3 : MC := MC.ret
def f29_c4 : MC := .seq f29_c2 f29_c3
def f29_c5 : MC := MC.skip
def f29_c6 : MC := .cond (Qh 10) f29_c4 f29_c5
def f29_c7 : MC := .seq f29_c1 f29_c6
def f29_r8 : List MO := [
(Qa (Qp 11) (Qc (Qh 0))),
(Qa (Qp 12) (MOp.len Qn (Qh 11))),
(Qa (Qp 13) (Qc (Qi (Qj (Qk (Ql Qo 0))))))]
def f29_c8 : MC := .reg false f29_r8
def f29_r9 : List MO := [
(Qa (Qp 14) (Qd Qn Go.BinOp.lss (Qh 13) (Qh 12)))]
def f29_c9 : MC := .reg false f29_r9
def f29_c10 : MC := MC.skip
def f29_c11 : MC := (MC.exit 0)
def f29_c12 : MC := .cond (Qh 14) f29_c10 f29_c11
def f29_r13 : List MO := [
(Qa (Qp 15) (Qc (Qh 13))),
(Qa (Qp 5) (Qc (Qh 15)))]
def f29_c13 : MC := .reg false f29_r13
def f29_r14 : List MO := [
(Qa (Qp 16) (Qc (Qh 0))),
(Qa (Qp 17) (Qc (Qh 5))),
(Qa (Qp 18) (MOp.iad 3 (Qh 16) (Qh 17))),
(Qa (Qp 19) (Qe 3 true (Qh 18))),
(Qa (Qp 20) (Qc (Qh 1))),
(Qa (Qp 21) (Qc (Qh 5))),
(Qa (Qp 22) (MOp.iad 3 (Qh 20) (Qh 21))),
(Qa (Qp 23) (Qe 3 true (Qh 22))),
(Qa (Qp 24) (MOp.eqs true [Qn, Qn, Leaf.s] (Qh 19) (Qh 23)))]
def f29_c14 : MC := .reg true f29_r14
def f29_r15 : List MO := [
(Qa (Qp 4) (Qc (Qi (Qj (Qk (Qm false))))))]
def f29_c15 : MC := .reg false f29_r15
def f29_c16 : MC := MC.ret
def f29_c17 : MC := .seq f29_c15 f29_c16
def f29_c18 : MC := MC.skip
def f29_c19 : MC := .cond (Qh 24) f29_c17 f29_c18
def f29_c20 : MC := .seq f29_c14 f29_c19
def f29_c21 : MC := .seq f29_c13 f29_c20
def f29_c22 : MC := .blk 1 f29_c21
def f29_r23 : List MO := [
(Qa (Qp 25) (Qd Qn Go.BinOp.add (Qh 13) (Qi (Qj (Qk (Ql Qo 1)))))),
(Qa (Qp 13) (Qc (Qh 25)))]
def f29_c23 : MC := .reg false f29_r23
def f29_c24 : MC := .seq f29_c22 f29_c23
def f29_c25 : MC := .seq f29_c12 f29_c24
def f29_c26 : MC := .seq f29_c9 f29_c25
def f29_c27 : MC := .loop f29_c26
def f29_c28 : MC := .blk 0 f29_c27
def f29_c29 : MC := .seq f29_c8 f29_c28
def f29_r30 : List MO := [
(Qa (Qp 4) (Qc (Qi (Qj (Qk (Qm true))))))]
def f29_c30 : MC := .reg false f29_r30
def f29_c31 : MC := MC.ret
def f29_c32 : MC := .seq f29_c30 f29_c31
def f29_c33 : MC := .seq f29_c29 f29_c32
def f29_c34 : MC := .seq f29_c7 f29_c33
def f29_c35 : MC := .seq f29_c0 f29_c34
noncomputable def f29_code : Code := (Go.Proofs.Tryd.f29.body).getD .skip
theorem f29_body : Go.Proofs.Tryd.f29.body = Qp f29_code := by kernel_rfl
theorem f29_tr : trC Go.Proofs.Tryd.prog [] f29_code = Qp f29_c35 := by kernel_rfl
theorem f29_rs : rsOf Go.Proofs.Tryd.prog Go.Proofs.Tryd.f29.results.toList = Qp [(RV.t 4)] := by kernel_rfl
theorem f29_nt : Go.Proofs.Tryd.f29.ntmps = 26 := by kernel_rfl
theorem f29_ok : callable Go.Proofs.Tryd.prog 29 = true := by kernel_rfl
theorem f29_in {gp : Heap} {args : List V} {res : V} (h : G ⟨Go.Proofs.Tryd.prog, gp, 0, [(RV.t 4)], fun r c => r = res ∧ c = [], false⟩ [.code f29_c35, .fin] ⟨args ++ List.replicate (26 - args.length) .un, []⟩) : Does Go.Proofs.Tryd.prog gp 29 args res :=
  does_intro f29_ok Go.Proofs.Tryd.func29 f29_body f29_tr f29_rs (by rw [f29_nt]; exact h)
theorem f29_tri {gp : Heap} {args : List V} {pre : List Ch} {R : V → List Ch → Prop} (h : G ⟨Go.Proofs.Tryd.prog, gp, pre.length, [(RV.t 4)], R, false⟩ [.code f29_c35, .fin] ⟨args ++ List.replicate (26 - args.length) .un, pre⟩) : Tri Go.Proofs.Tryd.prog gp 29 args pre R :=
  tri_intro Go.Proofs.Tryd.func29 f29_body f29_tr f29_rs (by rw [f29_nt]; exact h)

/-! slices.Equal[[]int,int] -/
def f30_r0 : List MO := [
(Qa (Qp 4) (Qc (Qi (Qj (Qk (Qm false))))))]
def f30_c0 : MC := .reg false f30_r0
def f30_r1 : List MO := [
(Qa (Qp 6) (Qc (Qh 0))),
(Qa (Qp 7) (MOp.len Qn (Qh 6))),
(Qa (Qp 8) (Qc (Qh 1))),
(Qa (Qp 9) (MOp.len Qn (Qh 8))),
(Qa (Qp 10) (Qd Qn Go.BinOp.neq (Qh 7) (Qh 9)))]
def f30_c1 : MC := .reg false f30_r1
def f30_r2 : List MO := [
(Qa (Qp 4) (Qc (Qi (Qj (Qk (Qm false))))))]
def f30_c2 : MC := .reg false f30_r2
def f30_c3 : MC := MC.ret
def f30_c4 : MC := .seq f30_c2 f30_c3
def f30_c5 : MC := MC.skip
def f30_c6 : MC := .cond (Qh 10) f30_c4 f30_c5
def f30_c7 : MC := .seq f30_c1 f30_c6
def f30_r8 : List MO := [
(Qa (Qp 11) (Qc (Qh 0))),
(Qa (Qp 12) (MOp.len Qn (Qh 11))),
(Qa (Qp 13) (Qc (Qi (Qj (Qk (Ql Qo 0))))))]
def f30_c8 : MC := .reg false f30_r8
def f30_r9 : List MO := [
(Qa (Qp 14) (Qd Qn Go.BinOp.lss (Qh 13) (Qh 12)))]
def f30_c9 : MC := .reg false f30_r9
def f30_c10 : MC := MC.skip
def f30_c11 : MC := (MC.exit 0)
def f30_c12 : MC := .cond (Qh 14) f30_c10 f30_c11
def f30_r13 : List MO := [
(Qa (Qp 15) (Qc (Qh 13))),
(Qa (Qp 5) (Qc (Qh 15)))]
def f30_c13 : MC := .reg false f30_r13
def f30_r14 : List MO := [
(Qa (Qp 16) (Qc (Qh 0))),
(Qa (Qp 17) (Qc (Qh 5))),
(Qa (Qp 18) (MOp.iad 1 (Qh 16) (Qh 17))),
(Qa (Qp 19) (Qe 1 false (Qh 18))),
(Qa (Qp 20) (Qc (Qh 1))),
(Qa (Qp 21) (Qc (Qh 5))),
(Qa (Qp 22) (MOp.iad 1 (Qh 20) (Qh 21))),
(Qa (Qp 23) (Qe 1 false (Qh 22))),
(Qa (Qp 24) (Qd Qn Go.BinOp.neq (Qh 19) (Qh 23)))]
def f30_c14 : MC := .reg true f30_r14
def f30_r15 : List MO := [
(Qa (Qp 4) (Qc (Qi (Qj (Qk (Qm false))))))]
def f30_c15 : MC := .reg false f30_r15
def f30_c16 : MC := MC.ret
def f30_c17 : MC := .seq f30_c15 f30_c16
def f30_c18 : MC := MC.skip
def f30_c19 : MC := .cond (Qh 24) f30_c17 f30_c18
def f30_c20 : MC := .seq f30_c14 f30_c19
def f30_c21 : MC := .seq f30_c13 f30_c20
def f30_c22 : MC := .blk 1 f30_c21
def f30_r23 : List MO := [
(Qa (Qp 25) (Qd Qn Go.BinOp.add (Qh 13) (Qi (Qj (Qk (Ql Qo 1)))))),
(Qa (Qp 13) (Qc (Qh 25)))]
def f30_c23 : MC := .reg false f30_r23
def f30_c24 : MC := .seq f30_c22 f30_c23
def f30_c25 : MC := .seq f30_c12 f30_c24
def f30_c26 : MC := .seq f30_c9 f30_c25
def f30_c27 : MC := .loop f30_c26
def f30_c28 : MC := .blk 0 f30_c27
def f30_c29 : MC := .seq f30_c8 f30_c28
def f30_r30 : List MO := [
(Qa (Qp 4) (Qc (Qi (Qj (Qk (Qm true))))))]
def f30_c30 : MC := .reg false f30_r30
def f30_c31 : MC := MC.ret
def f30_c32 : MC := .seq f30_c30 f30_c31
def f30_c33 : MC := .seq f30_c29 f30_c32
def f30_c34 : MC := .seq f30_c7 f30_c33
def f30_c35 : MC := .seq f30_c0 f30_c34
noncomputable def f30_code : Code := (Go.Proofs.Tryd.f30.body).getD .skip
theorem f30_body : Go.Proofs.Tryd.f30.body = Qp f30_code := by kernel_rfl
theorem f30_tr : trC Go.Proofs.Tryd.prog [] f30_code = Qp f30_c35 := by kernel_rfl
theorem f30_rs : rsOf Go.Proofs.Tryd.prog Go.Proofs.Tryd.f30.results.toList = Qp [(RV.t 4)] := by kernel_rfl
theorem f30_nt : Go.Proofs.Tryd.f30.ntmps = 26 := by kernel_rfl
theorem f30_ok : callable Go.Proofs.Tryd.prog 30 = true := by kernel_rfl
theorem f30_in {gp : Heap} {args : List V} {res : V} (h : G ⟨Go.Proofs.Tryd.prog, gp, 0, [(RV.t 4)], fun r c => r = res ∧ c = [], false⟩ [.code f30_c35, .fin] ⟨args ++ List.replicate (26 - args.length) .un, []⟩) : Does Go.Proofs.Tryd.prog gp 30 args res :=
  does_intro f30_ok Go.Proofs.Tryd.func30 f30_body f30_tr f30_rs (by rw [f30_nt]; exact h)
theorem f30_tri {gp : Heap} {args : List V} {pre : List Ch} {R : V → List Ch → Prop} (h : G ⟨Go.Proofs.Tryd.prog, gp, pre.length, [(RV.t 4)], R, false⟩ [.code f30_c35, .fin] ⟨args ++ List.replicate (26 - args.length) .un, pre⟩) : Tri Go.Proofs.Tryd.prog gp 30 args pre R :=
  tri_intro Go.Proofs.Tryd.func30 f30_body f30_tr f30_rs (by rw [f30_nt]; exact h)

/-! slices.EqualFunc[[]sigillary/api.Node,[]sigillary/api.Node,sigillary/api.Node,sigillary/api.Node] -/
def f31_r0 : List MO := [
(Qa (Qp 6) (Qc (Qi (Qj (Qk (Qm false))))))]
def f31_c0 : MC := .reg false f31_r0
def f31_r1 : List MO := [
(Qa (Qp 10) (Qc (Qh 0))),
(Qa (Qp 11) (MOp.len Qn (Qh 10))),
(Qa (Qp 12) (Qc (Qh 1))),
(Qa (Qp 13) (MOp.len Qn (Qh 12))),
(Qa (Qp 14) (Qd Qn Go.BinOp.neq (Qh 11) (Qh 13)))]
def f31_c1 : MC := .reg false f31_r1
def f31_r2 : List MO := [
(Qa (Qp 6) (Qc (Qi (Qj (Qk (Qm false))))))]
def f31_c2 : MC := .reg false f31_r2
def f31_c3 : MC := MC.ret
def f31_c4 : MC := .seq f31_c2 f31_c3
def f31_c5 : MC := MC.skip
def f31_c6 : MC := .cond (Qh 14) f31_c4 f31_c5
def f31_c7 : MC := .seq f31_c1 f31_c6
def f31_r8 : List MO := [
(Qa (Qp 15) (Qc (Qh 0))),
(Qa (Qp 16) (MOp.len Qn (Qh 15))),
(Qa (Qp 17) (Qc (Qi (Qj (Qk (Ql Qo 0))))))]
def f31_c8 : MC := .reg false f31_r8
def f31_r9 : List MO := [
(Qa (Qp 18) (Qd Qn Go.BinOp.lss (Qh 17) (Qh 16)))]
def f31_c9 : MC := .reg false f31_r9
def f31_c10 : MC := MC.skip
def f31_c11 : MC := (MC.exit 0)
def f31_c12 : MC := .cond (Qh 18) f31_c10 f31_c11
def f31_r13 : List MO := [
(Qa (Qp 19) (Qc (Qh 17))),
(Qa (Qp 20) (MOp.iad 6 (Qh 15) (Qh 17))),
(Qa (Qp 21) (Qe 6 true (Qh 20))),
(Qa (Qp 8) (MOp.alloc [(Ql Qo 0), (Ql Qo 0), (Ql Qo 0), (D.str (ByteArray.mk #[])), (D.sl []), (D.sl [])])),
(Qa (Qp 7) (Qc (Qh 19))),
(Qa none (MOp.store 6 (Qh 8) (Qh 21)))]
def f31_c13 : MC := .reg false f31_r13
def f31_r14 : List MO := [
(Qa (Qp 22) (Qc (Qh 1))),
(Qa (Qp 23) (Qc (Qh 7))),
(Qa (Qp 24) (MOp.iad 6 (Qh 22) (Qh 23))),
(Qa (Qp 25) (Qe 6 true (Qh 24))),
(Qa (Qp 9) (MOp.alloc [(Ql Qo 0), (Ql Qo 0), (Ql Qo 0), (D.str (ByteArray.mk #[])), (D.sl []), (D.sl [])])),
(Qa none (MOp.store 6 (Qh 9) (Qh 25)))]
def f31_c14 : MC := .reg false f31_r14
def f31_r15 : List MO := [
(Qa (Qp 26) (Qc (Qh 2))),
(Qa (Qp 27) (Qe 6 true (Qh 8))),
(Qa (Qp 28) (Qe 6 true (Qh 9))),
(Qa (Qp 29) (MOp.callv (Qh 26) [(Qh 27), (Qh 28)])),
(Qa (Qp 30) (MOp.not (Qh 29)))]
def f31_c15 : MC := .reg false f31_r15
def f31_r16 : List MO := [
(Qa (Qp 6) (Qc (Qi (Qj (Qk (Qm false))))))]
def f31_c16 : MC := .reg false f31_r16
def f31_c17 : MC := MC.ret
def f31_c18 : MC := .seq f31_c16 f31_c17
def f31_c19 : MC := MC.skip
def f31_c20 : MC := .cond (Qh 30) f31_c18 f31_c19
def f31_c21 : MC := .seq f31_c15 f31_c20
def f31_c22 : MC := .seq f31_c14 f31_c21
def f31_c23 : MC := .seq f31_c13 f31_c22
def f31_c24 : MC := .blk 1 f31_c23
def f31_r25 : List MO := [
(Qa (Qp 31) (Qd Qn Go.BinOp.add (Qh 17) (Qi (Qj (Qk (Ql Qo 1)))))),
(Qa (Qp 17) (Qc (Qh 31)))]
def f31_c25 : MC := .reg false f31_r25
def f31_c26 : MC := .seq f31_c24 f31_c25
def f31_c27 : MC := .seq f31_c12 f31_c26
def f31_c28 : MC := .seq f31_c9 f31_c27
def f31_c29 : MC := .loop f31_c28
def f31_c30 : MC := .blk 0 f31_c29
def f31_c31 : MC := .seq f31_c8 f31_c30
def f31_r32 : List MO := [
(Qa (Qp 6) (Qc (Qi (Qj (Qk (Qm true))))))]
def f31_c32 : MC := .reg false f31_r32
def f31_c33 : MC := MC.ret
def f31_c34 : MC := .seq f31_c32 f31_c33
def f31_c35 : MC := .seq f31_c31 f31_c34
def f31_c36 : MC := .seq f31_c7 f31_c35
def f31_c37 : MC := .seq f31_c0 f31_c36
noncomputable def f31_code : Code := (Go.Proofs.Tryd.f31.body).getD .skip
theorem f31_body : Go.Proofs.Tryd.f31.body = Qp f31_code := by kernel_rfl
theorem f31_tr : trC Go.Proofs.Tryd.prog [] f31_code = Qp f31_c37 := by kernel_rfl
theorem f31_rs : rsOf Go.Proofs.Tryd.prog Go.Proofs.Tryd.f31.results.toList = Qp [(RV.t 6)] := by kernel_rfl
theorem f31_nt : Go.Proofs.Tryd.f31.ntmps = 32 := by kernel_rfl
theorem f31_ok : callable Go.Proofs.Tryd.prog 31 = true := by kernel_rfl
theorem f31_in {gp : Heap} {args : List V} {res : V} (h : G ⟨Go.Proofs.Tryd.prog, gp, 0, [(RV.t 6)], fun r c => r = res ∧ c = [], false⟩ [.code f31_c37, .fin] ⟨args ++ List.replicate (32 - args.length) .un, []⟩) : Does Go.Proofs.Tryd.prog gp 31 args res :=
  does_intro f31_ok Go.Proofs.Tryd.func31 f31_body f31_tr f31_rs (by rw [f31_nt]; exact h)
theorem f31_tri {gp : Heap} {args : List V} {pre : List Ch} {R : V → List Ch → Prop} (h : G ⟨Go.Proofs.Tryd.prog, gp, pre.length, [(RV.t 6)], R, false⟩ [.code f31_c37, .fin] ⟨args ++ List.replicate (32 - args.length) .un, pre⟩) : Tri Go.Proofs.Tryd.prog gp 31 args pre R :=
  tri_intro Go.Proofs.Tryd.func31 f31_body f31_tr f31_rs (by rw [f31_nt]; exact h)

/-! sigillary/arena.isPlace -/
def f33_r0 : List MO := [
(Qa (Qp 2) (MOp.ibox (Qh 0))),
(Qa (Qp 4) (Qc (Qi (Qj (Qk (Qm false))))))]
def f33_c0 : MC := .reg false f33_r0
def f33_r1 : List MO := [
(Qa (Qp 5) (Qc (Qh 1))),
(Qa (Qp 6) (Qd Qn Go.BinOp.geq (Qh 5) (Qi (Qj (Qk (Ql Qo 0)))))),
(Qa (Qp 7) (Qc (Qh 6))),
(Qb 7 true (Qp 8)),
(Qa (Qp 8) (Qc (Qh 1))),
(Qb 7 true (Qp 9)),
(Qa (Qp 9) (Qf 1 (Qh 2))),
(Qb 7 true (Qp 10)),
(Qa (Qp 10) (Qe 1 false (Qh 9))),
(Qb 7 true (Qp 11)),
(Qa (Qp 11) (MOp.len Qn (Qh 10))),
(Qb 7 true (Qp 12)),
(Qa (Qp 12) (Qd Qn Go.BinOp.lss (Qh 8) (Qh 11))),
(Qa (Qp 13) (MOp.pick (Qh 7) (Qh 12) (Qi (Qj (Qk (Qm false)))))),
(Qa (Qp 4) (Qc (Qh 13)))]
def f33_c1 : MC := .reg false f33_r1
def f33_c2 : MC := MC.ret
def f33_c3 : MC := .seq f33_c1 f33_c2
def f33_c4 : MC := .seq f33_c0 f33_c3
noncomputable def f33_code : Code := (Go.Proofs.Tryd.f33.body).getD .skip
theorem f33_body : Go.Proofs.Tryd.f33.body = Qp f33_code := by kernel_rfl
theorem f33_tr : trC Go.Proofs.Tryd.prog [2] f33_code = Qp f33_c4 := by kernel_rfl
theorem f33_rs : rsOf Go.Proofs.Tryd.prog Go.Proofs.Tryd.f33.results.toList = Qp [(RV.t 4)] := by kernel_rfl
theorem f33_nt : Go.Proofs.Tryd.f33.ntmps = 14 := by kernel_rfl
theorem f33_ok : callable Go.Proofs.Tryd.prog 33 = true := by kernel_rfl
theorem f33_in {gp : Heap} {args : List V} {res : V} (h : G ⟨Go.Proofs.Tryd.prog, gp, 0, [(RV.t 4)], fun r c => r = res ∧ c = [], false⟩ [.code f33_c4, .fin] ⟨args ++ List.replicate (14 - args.length) .un, []⟩) : Does Go.Proofs.Tryd.prog gp 33 args res :=
  does_intro f33_ok Go.Proofs.Tryd.func33 f33_body f33_tr f33_rs (by rw [f33_nt]; exact h)
theorem f33_tri {gp : Heap} {args : List V} {pre : List Ch} {R : V → List Ch → Prop} (h : G ⟨Go.Proofs.Tryd.prog, gp, pre.length, [(RV.t 4)], R, false⟩ [.code f33_c4, .fin] ⟨args ++ List.replicate (14 - args.length) .un, pre⟩) : Tri Go.Proofs.Tryd.prog gp 33 args pre R :=
  tri_intro Go.Proofs.Tryd.func33 f33_body f33_tr f33_rs (by rw [f33_nt]; exact h)

/-! sigillary/arena.views -/
def f34_r0 : List MO := [
(Qa (Qp 1) (MOp.ibox (Qh 0))),
(Qa (Qp 2) (Qc (Qi (Qj (Qk D.nilF)))))]
def f34_c0 : MC := .reg false f34_r0
def f34_r1 : List MO := [
(Qa (Qp 3) (MOp.mkF (Go.Fn.func 45) [(Qh 1)])),
(Qa (Qp 2) (Qc (Qh 3)))]
def f34_c1 : MC := .reg false f34_r1
def f34_c2 : MC := MC.ret
def f34_c3 : MC := .seq f34_c1 f34_c2
def f34_c4 : MC := .seq f34_c0 f34_c3
noncomputable def f34_code : Code := (Go.Proofs.Tryd.f34.body).getD .skip
theorem f34_body : Go.Proofs.Tryd.f34.body = Qp f34_code := by kernel_rfl
theorem f34_tr : trC Go.Proofs.Tryd.prog [1] f34_code = Qp f34_c4 := by kernel_rfl
theorem f34_rs : rsOf Go.Proofs.Tryd.prog Go.Proofs.Tryd.f34.results.toList = Qp [(RV.t 2)] := by kernel_rfl
theorem f34_nt : Go.Proofs.Tryd.f34.ntmps = 4 := by kernel_rfl
theorem f34_ok : callable Go.Proofs.Tryd.prog 34 = true := by kernel_rfl
theorem f34_in {gp : Heap} {args : List V} {res : V} (h : G ⟨Go.Proofs.Tryd.prog, gp, 0, [(RV.t 2)], fun r c => r = res ∧ c = [], false⟩ [.code f34_c4, .fin] ⟨args ++ List.replicate (4 - args.length) .un, []⟩) : Does Go.Proofs.Tryd.prog gp 34 args res :=
  does_intro f34_ok Go.Proofs.Tryd.func34 f34_body f34_tr f34_rs (by rw [f34_nt]; exact h)
theorem f34_tri {gp : Heap} {args : List V} {pre : List Ch} {R : V → List Ch → Prop} (h : G ⟨Go.Proofs.Tryd.prog, gp, pre.length, [(RV.t 2)], R, false⟩ [.code f34_c4, .fin] ⟨args ++ List.replicate (4 - args.length) .un, pre⟩) : Tri Go.Proofs.Tryd.prog gp 34 args pre R :=
  tri_intro Go.Proofs.Tryd.func34 f34_body f34_tr f34_rs (by rw [f34_nt]; exact h)

/-! (sigillary/arena.view).isRight -/
def f35_r0 : List MO := [
(Qa (Qp 1) (MOp.ibox (Qh 0))),
(Qa (Qp 2) (Qc (Qi (Qj (Qk (Qm false))))))]
def f35_c0 : MC := .reg false f35_r0
def f35_r1 : List MO := [
(Qa (Qp 4) (MOp.build [D.nilF, D.nilF, D.nilF] [(0, (1, (Qi (Qj (Qk (D.fn (Go.Fn.func 46) [])))))), (1, (1, (Qi (Qj (Qk (D.fn (Go.Fn.func 47) [])))))), (2, (1, (Qi (Qj (Qk (D.fn (Go.Fn.func 48) []))))))])),
(Qa (Qp 3) (MOp.alloc [D.nilF, D.nilF, D.nilF])),
(Qa none (MOp.store 3 (Qh 3) (Qh 4)))]
def f35_c1 : MC := .reg false f35_r1
def f35_r2 : List MO := [
(Qa (Qp 5) (Qf 0 (Qh 1))),
(Qa (Qp 6) (Qf 0 (Qh 5))),
(Qa (Qp 7) (Qe 1 false (Qh 6))),
(Qa (Qp 8) (Qd Qn Go.BinOp.geq (Qh 7) (Qi (Qj (Qk (Ql Qo 0)))))),
(Qa (Qp 9) (Qc (Qh 8))),
(Qb 9 true (Qp 10)),
(Qa (Qp 10) (Qf 0 (Qh 1))),
(Qb 9 true (Qp 11)),
(Qa (Qp 11) (Qf 0 (Qh 10))),
(Qb 9 true (Qp 12)),
(Qa (Qp 12) (Qe 1 false (Qh 11))),
(Qb 9 true (Qp 13)),
(Qa (Qp 13) (Qd Qn Go.BinOp.lss (Qh 12) (Qi (Qj (Qk (Ql Qo 3)))))),
(Qa (Qp 14) (MOp.pick (Qh 9) (Qh 13) (Qi (Qj (Qk (Qm false)))))),
(Qa (Qp 15) (Qc (Qh 14))),
(Qb 15 true (Qp 16)),
(Qa (Qp 16) (Qf 0 (Qh 1))),
(Qb 15 true (Qp 17)),
(Qa (Qp 17) (Qf 0 (Qh 16))),
(Qb 15 true (Qp 18)),
(Qa (Qp 18) (Qe 1 false (Qh 17))),
(Qb 15 true (Qp 19)),
(Qa (Qp 19) (MOp.iadA 3 1 (Qh 3) (Qh 18))),
(Qb 15 true (Qp 20)),
(Qa (Qp 20) (Qe 1 false (Qh 19))),
(Qb 15 true (Qp 21)),
(Qa (Qp 21) (Qe 7 true (Qh 1))),
(Qb 15 true (Qp 22)),
(Qa (Qp 22) (MOp.callv (Qh 20) [(Qh 21)])),
(Qa (Qp 23) (MOp.pick (Qh 15) (Qh 22) (Qi (Qj (Qk (Qm false)))))),
(Qa (Qp 2) (Qc (Qh 23)))]
def f35_c2 : MC := .reg true f35_r2
def f35_c3 : MC := MC.ret
def f35_c4 : MC := .seq f35_c2 f35_c3
def f35_c5 : MC := .seq f35_c1 f35_c4
def f35_c6 : MC := .seq f35_c0 f35_c5
noncomputable def f35_code : Code := (Go.Proofs.Tryd.f35.body).getD .skip
theorem f35_body : Go.Proofs.Tryd.f35.body = Qp f35_code := by kernel_rfl
theorem f35_tr : trC Go.Proofs.Tryd.prog [1] f35_code = Qp f35_c6 := by kernel_rfl
theorem f35_rs : rsOf Go.Proofs.Tryd.prog Go.Proofs.Tryd.f35.results.toList = Qp [(RV.t 2)] := by kernel_rfl
theorem f35_nt : Go.Proofs.Tryd.f35.ntmps = 24 := by kernel_rfl
theorem f35_ok : callable Go.Proofs.Tryd.prog 35 = true := by kernel_rfl
theorem f35_in {gp : Heap} {args : List V} {res : V} (h : G ⟨Go.Proofs.Tryd.prog, gp, 0, [(RV.t 2)], fun r c => r = res ∧ c = [], false⟩ [.code f35_c6, .fin] ⟨args ++ List.replicate (24 - args.length) .un, []⟩) : Does Go.Proofs.Tryd.prog gp 35 args res :=
  does_intro f35_ok Go.Proofs.Tryd.func35 f35_body f35_tr f35_rs (by rw [f35_nt]; exact h)
theorem f35_tri {gp : Heap} {args : List V} {pre : List Ch} {R : V → List Ch → Prop} (h : G ⟨Go.Proofs.Tryd.prog, gp, pre.length, [(RV.t 2)], R, false⟩ [.code f35_c6, .fin] ⟨args ++ List.replicate (24 - args.length) .un, pre⟩) : Tri Go.Proofs.Tryd.prog gp 35 args pre R :=
  tri_intro Go.Proofs.Tryd.func35 f35_body f35_tr f35_rs (by rw [f35_nt]; exact h)

/-! (sigillary/arena.view).isPaired -/
def f36_r0 : List MO := [
(Qa (Qp 1) (MOp.ibox (Qh 0))),
(Qa (Qp 2) (Qc (Qi (Qj (Qk (Qm false))))))]
def f36_c0 : MC := .reg false f36_r0
def f36_r1 : List MO := [
(Qa (Qp 3) (Qf 0 (Qh 1))),
(Qa (Qp 4) (Qf 4 (Qh 3))),
(Qa (Qp 5) (Qe 1 false (Qh 4))),
(Qa (Qp 6) (MOp.len Qn (Qh 5))),
(Qa (Qp 7) (Qf 0 (Qh 1))),
(Qa (Qp 8) (Qf 5 (Qh 7))),
(Qa (Qp 9) (Qe 1 false (Qh 8))),
(Qa (Qp 10) (MOp.len Qn (Qh 9))),
(Qa (Qp 11) (Qd Qn Go.BinOp.eql (Qh 6) (Qh 10))),
(Qa (Qp 2) (Qc (Qh 11)))]
def f36_c1 : MC := .reg false f36_r1
def f36_c2 : MC := MC.ret
def f36_c3 : MC := .seq f36_c1 f36_c2
def f36_c4 : MC := .seq f36_c0 f36_c3
noncomputable def f36_code : Code := (Go.Proofs.Tryd.f36.body).getD .skip
theorem f36_body : Go.Proofs.Tryd.f36.body = Qp f36_code := by kernel_rfl
theorem f36_tr : trC Go.Proofs.Tryd.prog [1] f36_code = Qp f36_c4 := by kernel_rfl
theorem f36_rs : rsOf Go.Proofs.Tryd.prog Go.Proofs.Tryd.f36.results.toList = Qp [(RV.t 2)] := by kernel_rfl
theorem f36_nt : Go.Proofs.Tryd.f36.ntmps = 12 := by kernel_rfl
theorem f36_ok : callable Go.Proofs.Tryd.prog 36 = true := by kernel_rfl
theorem f36_in {gp : Heap} {args : List V} {res : V} (h : G ⟨Go.Proofs.Tryd.prog, gp, 0, [(RV.t 2)], fun r c => r = res ∧ c = [], false⟩ [.code f36_c4, .fin] ⟨args ++ List.replicate (12 - args.length) .un, []⟩) : Does Go.Proofs.Tryd.prog gp 36 args res :=
  does_intro f36_ok Go.Proofs.Tryd.func36 f36_body f36_tr f36_rs (by rw [f36_nt]; exact h)
theorem f36_tri {gp : Heap} {args : List V} {pre : List Ch} {R : V → List Ch → Prop} (h : G ⟨Go.Proofs.Tryd.prog, gp, pre.length, [(RV.t 2)], R, false⟩ [.code f36_c4, .fin] ⟨args ++ List.replicate (12 - args.length) .un, pre⟩) : Tri Go.Proofs.Tryd.prog gp 36 args pre R :=
  tri_intro Go.Proofs.Tryd.func36 f36_body f36_tr f36_rs (by rw [f36_nt]; exact h)

/-! slices.SortStableFunc[[]sigillary/arena.pair,sigillary/arena.pair] -/
def f37_r0 : List MO := [
(Qa (Qp 4) (Qc (Qh 0))),
(Qa (Qp 5) (Qc (Qh 0))),
(Qa (Qp 6) (MOp.len Qn (Qh 5))),
(Qa (Qp 7) (Qc (Qh 1))),
(Qa (Qp 8) (Qg 49 [(Qh 4), (Qh 6), (Qh 7)]))]
def f37_c0 : MC := .reg false f37_r0
noncomputable def f37_code : Code := (Go.Proofs.Tryd.f37.body).getD .skip
theorem f37_body : Go.Proofs.Tryd.f37.body = Qp f37_code := by kernel_rfl
theorem f37_tr : trC Go.Proofs.Tryd.prog [] f37_code = Qp f37_c0 := by kernel_rfl
theorem f37_rs : rsOf Go.Proofs.Tryd.prog Go.Proofs.Tryd.f37.results.toList = Qp [] := by kernel_rfl
theorem f37_nt : Go.Proofs.Tryd.f37.ntmps = 9 := by kernel_rfl
theorem f37_ok : callable Go.Proofs.Tryd.prog 37 = true := by kernel_rfl
theorem f37_in {gp : Heap} {args : List V} {res : V} (h : G ⟨Go.Proofs.Tryd.prog, gp, 0, [], fun r c => r = res ∧ c = [], false⟩ [.code f37_c0, .fin] ⟨args ++ List.replicate (9 - args.length) .un, []⟩) : Does Go.Proofs.Tryd.prog gp 37 args res :=
  does_intro f37_ok Go.Proofs.Tryd.func37 f37_body f37_tr f37_rs (by rw [f37_nt]; exact h)
theorem f37_tri {gp : Heap} {args : List V} {pre : List Ch} {R : V → List Ch → Prop} (h : G ⟨Go.Proofs.Tryd.prog, gp, pre.length, [], R, false⟩ [.code f37_c0, .fin] ⟨args ++ List.replicate (9 - args.length) .un, pre⟩) : Tri Go.Proofs.Tryd.prog gp 37 args pre R :=
  tri_intro Go.Proofs.Tryd.func37 f37_body f37_tr f37_rs (by rw [f37_nt]; exact h)

/-! (sigillary/arena.view).pairs$1 -/
def f38_r0 : List MO := [
(Qa (Qp 2) (MOp.ibox (Qh 0))),
(Qa (Qp 3) (MOp.ibox (Qh 1))),
(Qa (Qp 4) (Qc (Qi (Qj (Qk (Ql Qo 0))))))]
def f38_c0 : MC := .reg false f38_r0
def f38_r1 : List MO := [
(Qa (Qp 5) (Qf 0 (Qh 2))),
(Qa (Qp 6) (Qe 3 true (Qh 5))),
(Qa (Qp 7) (Qf 0 (Qh 3))),
(Qa (Qp 8) (Qe 3 true (Qh 7))),
(Qa (Qp 9) (Qg 14 [(Qh 6), (Qh 8)])),
(Qa (Qp 4) (Qc (Qh 9)))]
def f38_c1 : MC := .reg false f38_r1
def f38_c2 : MC := MC.ret
def f38_c3 : MC := .seq f38_c1 f38_c2
def f38_c4 : MC := .seq f38_c0 f38_c3
noncomputable def f38_code : Code := (Go.Proofs.Tryd.f38.body).getD .skip
theorem f38_body : Go.Proofs.Tryd.f38.body = Qp f38_code := by kernel_rfl
theorem f38_tr : trC Go.Proofs.Tryd.prog [2, 3] f38_code = Qp f38_c4 := by kernel_rfl
theorem f38_rs : rsOf Go.Proofs.Tryd.prog Go.Proofs.Tryd.f38.results.toList = Qp [(RV.t 4)] := by kernel_rfl
theorem f38_nt : Go.Proofs.Tryd.f38.ntmps = 10 := by kernel_rfl
theorem f38_ok : callable Go.Proofs.Tryd.prog 38 = true := by kernel_rfl
theorem f38_in {gp : Heap} {args : List V} {res : V} (h : G ⟨Go.Proofs.Tryd.prog, gp, 0, [(RV.t 4)], fun r c => r = res ∧ c = [], false⟩ [.code f38_c4, .fin] ⟨args ++ List.replicate (10 - args.length) .un, []⟩) : Does Go.Proofs.Tryd.prog gp 38 args res :=
  does_intro f38_ok Go.Proofs.Tryd.func38 f38_body f38_tr f38_rs (by rw [f38_nt]; exact h)
theorem f38_tri {gp : Heap} {args : List V} {pre : List Ch} {R : V → List Ch → Prop} (h : G ⟨Go.Proofs.Tryd.prog, gp, pre.length, [(RV.t 4)], R, false⟩ [.code f38_c4, .fin] ⟨args ++ List.replicate (10 - args.length) .un, pre⟩) : Tri Go.Proofs.Tryd.prog gp 38 args pre R :=
  tri_intro Go.Proofs.Tryd.func38 f38_body f38_tr f38_rs (by rw [f38_nt]; exact h)

/-! cmp.isNaN[int] -/
def f39_r0 : List MO := [
(Qa (Qp 2) (Qc (Qi (Qj (Qk (Qm false))))))]
def f39_c0 : MC := .reg false f39_r0
def f39_r1 : List MO := [
(Qa (Qp 3) (Qc (Qh 0))),
(Qa (Qp 4) (Qc (Qh 0))),
(Qa (Qp 5) (Qd Qn Go.BinOp.neq (Qh 3) (Qh 4))),
(Qa (Qp 2) (Qc (Qh 5)))]
def f39_c1 : MC := .reg false f39_r1
def f39_c2 : MC := MC.ret
def f39_c3 : MC := .seq f39_c1 f39_c2
def f39_c4 : MC := .seq f39_c0 f39_c3
noncomputable def f39_code : Code := (Go.Proofs.Tryd.f39.body).getD .skip
theorem f39_body : Go.Proofs.Tryd.f39.body = Qp f39_code := by kernel_rfl
theorem f39_tr : trC Go.Proofs.Tryd.prog [] f39_code = Qp f39_c4 := by kernel_rfl
theorem f39_rs : rsOf Go.Proofs.Tryd.prog Go.Proofs.Tryd.f39.results.toList = Qp [(RV.t 2)] := by kernel_rfl
theorem f39_nt : Go.Proofs.Tryd.f39.ntmps = 6 := by kernel_rfl
theorem f39_ok : callable Go.Proofs.Tryd.prog 39 = true := by kernel_rfl
theorem f39_in {gp : Heap} {args : List V} {res : V} (h : G ⟨Go.Proofs.Tryd.prog, gp, 0, [(RV.t 2)], fun r c => r = res ∧ c = [], false⟩ [.code f39_c4, .fin] ⟨args ++ List.replicate (6 - args.length) .un, []⟩) : Does Go.Proofs.Tryd.prog gp 39 args res :=
  does_intro f39_ok Go.Proofs.Tryd.func39 f39_body f39_tr f39_rs (by rw [f39_nt]; exact h)
theorem f39_tri {gp : Heap} {args : List V} {pre : List Ch} {R : V → List Ch → Prop} (h : G ⟨Go.Proofs.Tryd.prog, gp, pre.length, [(RV.t 2)], R, false⟩ [.code f39_c4, .fin] ⟨args ++ List.replicate (6 - args.length) .un, pre⟩) : Tri Go.Proofs.Tryd.prog gp 39 args pre R :=
  tri_intro Go.Proofs.Tryd.func39 f39_body f39_tr f39_rs (by rw [f39_nt]; exact h)

/-! cmp.isNaN[string] -/
def f40_r0 : List MO := [
(Qa (Qp 2) (Qc (Qi (Qj (Qk (Qm false))))))]
def f40_c0 : MC := .reg false f40_r0
def f40_r1 : List MO := [
(Qa (Qp 3) (Qc (Qh 0))),
(Qa (Qp 4) (Qc (Qh 0))),
(Qa (Qp 5) (Qd Leaf.s Go.BinOp.neq (Qh 3) (Qh 4))),
(Qa (Qp 2) (Qc (Qh 5)))]
def f40_c1 : MC := .reg false f40_r1
def f40_c2 : MC := MC.ret
def f40_c3 : MC := .seq f40_c1 f40_c2
def f40_c4 : MC := .seq f40_c0 f40_c3
noncomputable def f40_code : Code := (Go.Proofs.Tryd.f40.body).getD .skip
theorem f40_body : Go.Proofs.Tryd.f40.body = Qp f40_code := by kernel_rfl
theorem f40_tr : trC Go.Proofs.Tryd.prog [] f40_code = Qp f40_c4 := by kernel_rfl
theorem f40_rs : rsOf Go.Proofs.Tryd.prog Go.Proofs.Tryd.f40.results.toList = Qp [(RV.t 2)] := by kernel_rfl
theorem f40_nt : Go.Proofs.Tryd.f40.ntmps = 6 := by kernel_rfl
theorem f40_ok : callable Go.Proofs.Tryd.prog 40 = true := by kernel_rfl
theorem f40_in {gp : Heap} {args : List V} {res : V} (h : G ⟨Go.Proofs.Tryd.prog, gp, 0, [(RV.t 2)], fun r c => r = res ∧ c = [], false⟩ [.code f40_c4, .fin] ⟨args ++ List.replicate (6 - args.length) .un, []⟩) : Does Go.Proofs.Tryd.prog gp 40 args res :=
  does_intro f40_ok Go.Proofs.Tryd.func40 f40_body f40_tr f40_rs (by rw [f40_nt]; exact h)
theorem f40_tri {gp : Heap} {args : List V} {pre : List Ch} {R : V → List Ch → Prop} (h : G ⟨Go.Proofs.Tryd.prog, gp, pre.length, [(RV.t 2)], R, false⟩ [.code f40_c4, .fin] ⟨args ++ List.replicate (6 - args.length) .un, pre⟩) : Tri Go.Proofs.Tryd.prog gp 40 args pre R :=
  tri_intro Go.Proofs.Tryd.func40 f40_body f40_tr f40_rs (by rw [f40_nt]; exact h)

/-! sigillary/arena.views$1 -/
def f45_c0 : MC := MC.skip
def f45_r1 : List MO := [
(Qa (Qp 5) (Qf 1 (Qh 1))),
(Qa (Qp 6) (Qe 1 false (Qh 5))),
(Qa (Qp 7) (MOp.len Qn (Qh 6))),
(Qa (Qp 8) (Qc (Qi (Qj (Qk (Ql Qo 0))))))]
def f45_c1 : MC := .reg false f45_r1
def f45_r2 : List MO := [
(Qa (Qp 9) (Qd Qn Go.BinOp.lss (Qh 8) (Qh 7)))]
def f45_c2 : MC := .reg false f45_r2
def f45_c3 : MC := MC.skip
def f45_c4 : MC := (MC.exit 0)
def f45_c5 : MC := .cond (Qh 9) f45_c3 f45_c4
def f45_r6 : List MO := [
(Qa (Qp 10) (Qc (Qh 8))),
(Qa (Qp 11) (MOp.iad 6 (Qh 6) (Qh 8))),
(Qa (Qp 12) (Qe 6 true (Qh 11))),
(Qa (Qp 4) (MOp.alloc [(Ql Qo 0), (Ql Qo 0), (Ql Qo 0), (D.str (ByteArray.mk #[])), (D.sl []), (D.sl [])])),
(Qa (Qp 3) (Qc (Qh 10))),
(Qa none (MOp.store 6 (Qh 4) (Qh 12)))]
def f45_c6 : MC := .reg false f45_r6
def f45_r7 : List MO := [
(Qa (Qp 13) (Qc (Qh 0))),
(Qa (Qp 14) (Qc (Qh 3))),
(Qa (Qp 15) (Qe 6 true (Qh 4))),
(Qa (Qp 16) (Qf 1 (Qh 1))),
(Qa (Qp 17) (Qe 1 false (Qh 16))),
(Qa (Qp 18) (MOp.len Qn (Qh 17))),
(Qa (Qp 19) (MOp.build [(Ql Qo 0), (Ql Qo 0), (Ql Qo 0), (D.str (ByteArray.mk #[])), (D.sl []), (D.sl []), (Ql Qo 0)] [(0, (6, (Qh 15))), (6, (1, (Qh 18)))])),
(Qa (Qp 20) (MOp.callv (Qh 13) [(Qh 14), (Qh 19)])),
(Qa (Qp 21) (MOp.not (Qh 20)))]
def f45_c7 : MC := .reg false f45_r7
def f45_c8 : MC := (MC.exit 0)
def f45_c9 : MC := MC.skip
def f45_c10 : MC := .cond (Qh 21) f45_c8 f45_c9
def f45_c11 : MC := .seq f45_c7 f45_c10
def f45_c12 : MC := .seq f45_c6 f45_c11
def f45_c13 : MC := .blk 1 f45_c12
def f45_r14 : List MO := [
(Qa (Qp 22) (Qd Qn Go.BinOp.add (Qh 8) (Qi (Qj (Qk (Ql Qo 1)))))),
(Qa (Qp 8) (Qc (Qh 22)))]
def f45_c14 : MC := .reg false f45_r14
def f45_c15 : MC := .seq f45_c13 f45_c14
def f45_c16 : MC := .seq f45_c5 f45_c15
def f45_c17 : MC := .seq f45_c2 f45_c16
def f45_c18 : MC := .loop f45_c17
def f45_c19 : MC := .blk 0 f45_c18
def f45_c20 : MC := .seq f45_c1 f45_c19
def f45_c21 : MC := .seq f45_c0 f45_c20
def f45_c22 : MC := .scope f45_c21
noncomputable def f45_code : Code := (Go.Proofs.Tryd.f45.body).getD .skip
theorem f45_body : Go.Proofs.Tryd.f45.body = Qp f45_code := by kernel_rfl
theorem f45_tr : trC Go.Proofs.Tryd.prog [] f45_code = Qp f45_c22 := by kernel_rfl
theorem f45_rs : rsOf Go.Proofs.Tryd.prog Go.Proofs.Tryd.f45.results.toList = Qp [] := by kernel_rfl
theorem f45_nt : Go.Proofs.Tryd.f45.ntmps = 23 := by kernel_rfl
theorem f45_ok : callable Go.Proofs.Tryd.prog 45 = true := by kernel_rfl
theorem f45_in {gp : Heap} {args : List V} {res : V} (h : G ⟨Go.Proofs.Tryd.prog, gp, 0, [], fun r c => r = res ∧ c = [], false⟩ [.code f45_c22, .fin] ⟨args ++ List.replicate (23 - args.length) .un, []⟩) : Does Go.Proofs.Tryd.prog gp 45 args res :=
  does_intro f45_ok Go.Proofs.Tryd.func45 f45_body f45_tr f45_rs (by rw [f45_nt]; exact h)
theorem f45_tri {gp : Heap} {args : List V} {pre : List Ch} {R : V → List Ch → Prop} (h : G ⟨Go.Proofs.Tryd.prog, gp, pre.length, [], R, false⟩ [.code f45_c22, .fin] ⟨args ++ List.replicate (23 - args.length) .un, pre⟩) : Tri Go.Proofs.Tryd.prog gp 45 args pre R :=
  tri_intro Go.Proofs.Tryd.func45 f45_body f45_tr f45_rs (by rw [f45_nt]; exact h)

/-! (sigillary/arena.view).isOne -/
def f46_r0 : List MO := [
(Qa (Qp 1) (MOp.ibox (Qh 0))),
(Qa (Qp 2) (Qc (Qi (Qj (Qk (Qm false))))))]
def f46_c0 : MC := .reg false f46_r0
def f46_r1 : List MO := [
(Qa (Qp 3) (Qf 0 (Qh 1))),
(Qa (Qp 4) (Qf 1 (Qh 3))),
(Qa (Qp 5) (Qe 3 true (Qh 4))),
(Qa (Qp 6) (Qg 54 [(Qh 5)])),
(Qa (Qp 7) (Qf 0 (Qh 1))),
(Qa (Qp 8) (Qf 4 (Qh 7))),
(Qa (Qp 9) (Qe 1 false (Qh 8))),
(Qa (Qp 10) (MOp.len Qn (Qh 9))),
(Qa (Qp 11) (Qd Qn Go.BinOp.eql (Qh 10) (Qi (Qj (Qk (Ql Qo 0)))))),
(Qa (Qp 12) (Qf 0 (Qh 1))),
(Qa (Qp 13) (Qf 5 (Qh 12))),
(Qa (Qp 14) (Qe 1 false (Qh 13))),
(Qa (Qp 15) (MOp.len Qn (Qh 14))),
(Qa (Qp 16) (Qd Qn Go.BinOp.eql (Qh 15) (Qi (Qj (Qk (Ql Qo 0)))))),
(Qa (Qp 17) (MOp.bslice 1 [(Qm false)] 3 [(0, (Qh 6)), (1, (Qh 11)), (2, (Qh 16))])),
(Qa (Qp 18) (Qg 53 [(Qh 17)])),
(Qa (Qp 2) (Qc (Qh 18)))]
def f46_c1 : MC := .reg true f46_r1
def f46_c2 : MC := MC.ret
def f46_c3 : MC := .seq f46_c1 f46_c2
def f46_c4 : MC := .seq f46_c0 f46_c3
noncomputable def f46_code : Code := (Go.Proofs.Tryd.f46.body).getD .skip
theorem f46_body : Go.Proofs.Tryd.f46.body = Qp f46_code := by kernel_rfl
theorem f46_tr : trC Go.Proofs.Tryd.prog [1] f46_code = Qp f46_c4 := by kernel_rfl
theorem f46_rs : rsOf Go.Proofs.Tryd.prog Go.Proofs.Tryd.f46.results.toList = Qp [(RV.t 2)] := by kernel_rfl
theorem f46_nt : Go.Proofs.Tryd.f46.ntmps = 19 := by kernel_rfl
theorem f46_ok : callable Go.Proofs.Tryd.prog 46 = true := by kernel_rfl
theorem f46_in {gp : Heap} {args : List V} {res : V} (h : G ⟨Go.Proofs.Tryd.prog, gp, 0, [(RV.t 2)], fun r c => r = res ∧ c = [], false⟩ [.code f46_c4, .fin] ⟨args ++ List.replicate (19 - args.length) .un, []⟩) : Does Go.Proofs.Tryd.prog gp 46 args res :=
  does_intro f46_ok Go.Proofs.Tryd.func46 f46_body f46_tr f46_rs (by rw [f46_nt]; exact h)
theorem f46_tri {gp : Heap} {args : List V} {pre : List Ch} {R : V → List Ch → Prop} (h : G ⟨Go.Proofs.Tryd.prog, gp, pre.length, [(RV.t 2)], R, false⟩ [.code f46_c4, .fin] ⟨args ++ List.replicate (19 - args.length) .un, pre⟩) : Tri Go.Proofs.Tryd.prog gp 46 args pre R :=
  tri_intro Go.Proofs.Tryd.func46 f46_body f46_tr f46_rs (by rw [f46_nt]; exact h)

/-! (sigillary/arena.view).isSeq -/
def f47_r0 : List MO := [
(Qa (Qp 1) (MOp.ibox (Qh 0))),
(Qa (Qp 2) (Qc (Qi (Qj (Qk (Qm false))))))]
def f47_c0 : MC := .reg false f47_r0
def f47_r1 : List MO := [
(Qa (Qp 3) (Qf 0 (Qh 1))),
(Qa (Qp 4) (Qf 1 (Qh 3))),
(Qa (Qp 5) (Qe 3 true (Qh 4))),
(Qa (Qp 6) (MOp.build [(Ql Qo 0), (Ql Qo 0), (D.str (ByteArray.mk #[]))] [])),
(Qa (Qp 7) (MOp.eqs false [Qn, Qn, Leaf.s] (Qh 5) (Qh 6))),
(Qa (Qp 8) (Qf 0 (Qh 1))),
(Qa (Qp 9) (Qf 4 (Qh 8))),
(Qa (Qp 10) (Qe 1 false (Qh 9))),
(Qa (Qp 11) (MOp.len Qn (Qh 10))),
(Qa (Qp 12) (Qd Qn Go.BinOp.eql (Qh 11) (Qi (Qj (Qk (Ql Qo 0)))))),
(Qa (Qp 13) (Qe 7 true (Qh 1))),
(Qa (Qp 14) (Qg 55 [(Qh 13)])),
(Qa (Qp 15) (MOp.bslice 1 [(Qm false)] 3 [(0, (Qh 7)), (1, (Qh 12)), (2, (Qh 14))])),
(Qa (Qp 16) (Qg 53 [(Qh 15)])),
(Qa (Qp 2) (Qc (Qh 16)))]
def f47_c1 : MC := .reg true f47_r1
def f47_c2 : MC := MC.ret
def f47_c3 : MC := .seq f47_c1 f47_c2
def f47_c4 : MC := .seq f47_c0 f47_c3
noncomputable def f47_code : Code := (Go.Proofs.Tryd.f47.body).getD .skip
theorem f47_body : Go.Proofs.Tryd.f47.body = Qp f47_code := by kernel_rfl
theorem f47_tr : trC Go.Proofs.Tryd.prog [1] f47_code = Qp f47_c4 := by kernel_rfl
theorem f47_rs : rsOf Go.Proofs.Tryd.prog Go.Proofs.Tryd.f47.results.toList = Qp [(RV.t 2)] := by kernel_rfl
theorem f47_nt : Go.Proofs.Tryd.f47.ntmps = 17 := by kernel_rfl
theorem f47_ok : callable Go.Proofs.Tryd.prog 47 = true := by kernel_rfl
theorem f47_in {gp : Heap} {args : List V} {res : V} (h : G ⟨Go.Proofs.Tryd.prog, gp, 0, [(RV.t 2)], fun r c => r = res ∧ c = [], false⟩ [.code f47_c4, .fin] ⟨args ++ List.replicate (17 - args.length) .un, []⟩) : Does Go.Proofs.Tryd.prog gp 47 args res :=
  does_intro f47_ok Go.Proofs.Tryd.func47 f47_body f47_tr f47_rs (by rw [f47_nt]; exact h)
theorem f47_tri {gp : Heap} {args : List V} {pre : List Ch} {R : V → List Ch → Prop} (h : G ⟨Go.Proofs.Tryd.prog, gp, pre.length, [(RV.t 2)], R, false⟩ [.code f47_c4, .fin] ⟨args ++ List.replicate (17 - args.length) .un, pre⟩) : Tri Go.Proofs.Tryd.prog gp 47 args pre R :=
  tri_intro Go.Proofs.Tryd.func47 f47_body f47_tr f47_rs (by rw [f47_nt]; exact h)

/-! (sigillary/arena.view).isMap -/
def f48_r0 : List MO := [
(Qa (Qp 1) (MOp.ibox (Qh 0))),
(Qa (Qp 2) (Qc (Qi (Qj (Qk (Qm false))))))]
def f48_c0 : MC := .reg false f48_r0
def f48_r1 : List MO := [
(Qa (Qp 3) (Qf 0 (Qh 1))),
(Qa (Qp 4) (Qf 1 (Qh 3))),
(Qa (Qp 5) (Qe 3 true (Qh 4))),
(Qa (Qp 6) (MOp.build [(Ql Qo 0), (Ql Qo 0), (D.str (ByteArray.mk #[]))] [])),
(Qa (Qp 7) (MOp.eqs false [Qn, Qn, Leaf.s] (Qh 5) (Qh 6))),
(Qa (Qp 8) (Qe 7 true (Qh 1))),
(Qa (Qp 9) (Qg 36 [(Qh 8)])),
(Qa (Qp 10) (Qe 7 true (Qh 1))),
(Qa (Qp 11) (Qg 56 [(Qh 10)])),
(Qa (Qp 12) (Qe 7 true (Qh 1))),
(Qa (Qp 13) (Qg 55 [(Qh 12)])),
(Qa (Qp 14) (MOp.bslice 1 [(Qm false)] 4 [(0, (Qh 7)), (1, (Qh 9)), (2, (Qh 11)), (3, (Qh 13))])),
(Qa (Qp 15) (Qg 53 [(Qh 14)])),
(Qa (Qp 2) (Qc (Qh 15)))]
def f48_c1 : MC := .reg true f48_r1
def f48_c2 : MC := MC.ret
def f48_c3 : MC := .seq f48_c1 f48_c2
def f48_c4 : MC := .seq f48_c0 f48_c3
noncomputable def f48_code : Code := (Go.Proofs.Tryd.f48.body).getD .skip
theorem f48_body : Go.Proofs.Tryd.f48.body = Qp f48_code := by kernel_rfl
theorem f48_tr : trC Go.Proofs.Tryd.prog [1] f48_code = Qp f48_c4 := by kernel_rfl
theorem f48_rs : rsOf Go.Proofs.Tryd.prog Go.Proofs.Tryd.f48.results.toList = Qp [(RV.t 2)] := by kernel_rfl
theorem f48_nt : Go.Proofs.Tryd.f48.ntmps = 16 := by kernel_rfl
theorem f48_ok : callable Go.Proofs.Tryd.prog 48 = true := by kernel_rfl
theorem f48_in {gp : Heap} {args : List V} {res : V} (h : G ⟨Go.Proofs.Tryd.prog, gp, 0, [(RV.t 2)], fun r c => r = res ∧ c = [], false⟩ [.code f48_c4, .fin] ⟨args ++ List.replicate (16 - args.length) .un, []⟩) : Does Go.Proofs.Tryd.prog gp 48 args res :=
  does_intro f48_ok Go.Proofs.Tryd.func48 f48_body f48_tr f48_rs (by rw [f48_nt]; exact h)
theorem f48_tri {gp : Heap} {args : List V} {pre : List Ch} {R : V → List Ch → Prop} (h : G ⟨Go.Proofs.Tryd.prog, gp, pre.length, [(RV.t 2)], R, false⟩ [.code f48_c4, .fin] ⟨args ++ List.replicate (16 - args.length) .un, pre⟩) : Tri Go.Proofs.Tryd.prog gp 48 args pre R :=
  tri_intro Go.Proofs.Tryd.func48 f48_body f48_tr f48_rs (by rw [f48_nt]; exact h)

/-! slices.stableCmpFunc[sigillary/arena.pair] -/
def f49_r0 : List MO := [
(Qa (Qp 6) (Qc (Qi (Qj (Qk (Ql Qo 20))))))]
def f49_c0 : MC := .reg false f49_r0
def f49_r1 : List MO := [
(Qa (Qp 10) (Qc (Qh 6))),
(Qa (Qp 7) (Qc (Qi (Qj (Qk (Ql Qo 0)))))),
(Qa (Qp 8) (Qc (Qh 10)))]
def f49_c1 : MC := .reg false f49_r1
def f49_r2 : List MO := [
(Qa (Qp 11) (Qc (Qh 8))),
(Qa (Qp 12) (Qc (Qh 1))),
(Qa (Qp 13) (Qd Qn Go.BinOp.leq (Qh 11) (Qh 12)))]
def f49_c2 : MC := .reg false f49_r2
def f49_c3 : MC := MC.skip
def f49_c4 : MC := (MC.exit 0)
def f49_c5 : MC := .cond (Qh 13) f49_c3 f49_c4
def f49_c6 : MC := .seq f49_c2 f49_c5
def f49_r7 : List MO := [
(Qa (Qp 14) (Qc (Qh 0))),
(Qa (Qp 15) (Qc (Qh 7))),
(Qa (Qp 16) (Qc (Qh 8))),
(Qa (Qp 17) (Qc (Qh 2))),
(Qa (Qp 18) (Qg 57 [(Qh 14), (Qh 15), (Qh 16), (Qh 17)]))]
def f49_c7 : MC := .reg false f49_r7
def f49_r8 : List MO := [
(Qa (Qp 19) (Qc (Qh 8))),
(Qa (Qp 7) (Qc (Qh 19)))]
def f49_c8 : MC := .reg false f49_r8
def f49_r9 : List MO := [
(Qa (Qp 20) (Qc (Qh 8))),
(Qa (Qp 21) (Qc (Qh 6))),
(Qa (Qp 22) (Qd Qn Go.BinOp.add (Qh 20) (Qh 21))),
(Qa (Qp 8) (Qc (Qh 22)))]
def f49_c9 : MC := .reg false f49_r9
def f49_c10 : MC := .seq f49_c8 f49_c9
def f49_c11 : MC := .seq f49_c7 f49_c10
def f49_c12 : MC := .blk 1 f49_c11
def f49_c13 : MC := .seq f49_c6 f49_c12
def f49_c14 : MC := .loop f49_c13
def f49_c15 : MC := .blk 0 f49_c14
def f49_r16 : List MO := [
(Qa (Qp 23) (Qc (Qh 0))),
(Qa (Qp 24) (Qc (Qh 7))),
(Qa (Qp 25) (Qc (Qh 1))),
(Qa (Qp 26) (Qc (Qh 2))),
(Qa (Qp 27) (Qg 57 [(Qh 23), (Qh 24), (Qh 25), (Qh 26)]))]
def f49_c16 : MC := .reg false f49_r16
def f49_r17 : List MO := [
(Qa (Qp 28) (Qc (Qh 6))),
(Qa (Qp 29) (Qc (Qh 1))),
(Qa (Qp 30) (Qd Qn Go.BinOp.lss (Qh 28) (Qh 29)))]
def f49_c17 : MC := .reg false f49_r17
def f49_c18 : MC := MC.skip
def f49_c19 : MC := (MC.exit 2)
def f49_c20 : MC := .cond (Qh 30) f49_c18 f49_c19
def f49_c21 : MC := .seq f49_c17 f49_c20
def f49_r22 : List MO := [
(Qa (Qp 31) (Qc (Qh 6))),
(Qa (Qp 32) (Qd Qn Go.BinOp.mul (Qi (Qj (Qk (Ql Qo 2)))) (Qh 31))),
(Qa (Qp 7) (Qc (Qi (Qj (Qk (Ql Qo 0)))))),
(Qa (Qp 8) (Qc (Qh 32)))]
def f49_c22 : MC := .reg false f49_r22
def f49_r23 : List MO := [
(Qa (Qp 33) (Qc (Qh 8))),
(Qa (Qp 34) (Qc (Qh 1))),
(Qa (Qp 35) (Qd Qn Go.BinOp.leq (Qh 33) (Qh 34)))]
def f49_c23 : MC := .reg false f49_r23
def f49_c24 : MC := MC.skip
def f49_c25 : MC := (MC.exit 4)
def f49_c26 : MC := .cond (Qh 35) f49_c24 f49_c25
def f49_c27 : MC := .seq f49_c23 f49_c26
def f49_r28 : List MO := [
(Qa (Qp 36) (Qc (Qh 0))),
(Qa (Qp 37) (Qc (Qh 7))),
(Qa (Qp 38) (Qc (Qh 7))),
(Qa (Qp 39) (Qc (Qh 6))),
(Qa (Qp 40) (Qd Qn Go.BinOp.add (Qh 38) (Qh 39))),
(Qa (Qp 41) (Qc (Qh 8))),
(Qa (Qp 42) (Qc (Qh 2))),
(Qa (Qp 43) (Qg 58 [(Qh 36), (Qh 37), (Qh 40), (Qh 41), (Qh 42)]))]
def f49_c28 : MC := .reg false f49_r28
def f49_r29 : List MO := [
(Qa (Qp 44) (Qc (Qh 8))),
(Qa (Qp 7) (Qc (Qh 44)))]
def f49_c29 : MC := .reg false f49_r29
def f49_r30 : List MO := [
(Qa (Qp 45) (Qc (Qh 8))),
(Qa (Qp 46) (Qc (Qh 6))),
(Qa (Qp 47) (Qd Qn Go.BinOp.mul (Qi (Qj (Qk (Ql Qo 2)))) (Qh 46))),
(Qa (Qp 48) (Qd Qn Go.BinOp.add (Qh 45) (Qh 47))),
(Qa (Qp 8) (Qc (Qh 48)))]
def f49_c30 : MC := .reg false f49_r30
def f49_c31 : MC := .seq f49_c29 f49_c30
def f49_c32 : MC := .seq f49_c28 f49_c31
def f49_c33 : MC := .blk 5 f49_c32
def f49_c34 : MC := .seq f49_c27 f49_c33
def f49_c35 : MC := .loop f49_c34
def f49_c36 : MC := .blk 4 f49_c35
def f49_r37 : List MO := [
(Qa (Qp 49) (Qc (Qh 7))),
(Qa (Qp 50) (Qc (Qh 6))),
(Qa (Qp 51) (Qd Qn Go.BinOp.add (Qh 49) (Qh 50))),
(Qa (Qp 9) (Qc (Qh 51)))]
def f49_c37 : MC := .reg false f49_r37
def f49_r38 : List MO := [
(Qa (Qp 52) (Qc (Qh 9))),
(Qa (Qp 53) (Qc (Qh 1))),
(Qa (Qp 54) (Qd Qn Go.BinOp.lss (Qh 52) (Qh 53)))]
def f49_c38 : MC := .reg false f49_r38
def f49_r39 : List MO := [
(Qa (Qp 55) (Qc (Qh 0))),
(Qa (Qp 56) (Qc (Qh 7))),
(Qa (Qp 57) (Qc (Qh 9))),
(Qa (Qp 58) (Qc (Qh 1))),
(Qa (Qp 59) (Qc (Qh 2))),
(Qa (Qp 60) (Qg 58 [(Qh 55), (Qh 56), (Qh 57), (Qh 58), (Qh 59)]))]
def f49_c39 : MC := .reg false f49_r39
def f49_c40 : MC := MC.skip
def f49_c41 : MC := .cond (Qh 54) f49_c39 f49_c40
def f49_c42 : MC := .seq f49_c38 f49_c41
def f49_c43 : MC := .seq f49_c37 f49_c42
def f49_r44 : List MO := [
(Qa (Qp 61) (Qc (Qh 6))),
(Qa (Qp 62) (Qd Qn Go.BinOp.mul (Qh 61) (Qi (Qj (Qk (Ql Qo 2)))))),
(Qa (Qp 6) (Qc (Qh 62)))]
def f49_c44 : MC := .reg false f49_r44
def f49_c45 : MC := .seq f49_c43 f49_c44
def f49_c46 : MC := .seq f49_c36 f49_c45
def f49_c47 : MC := .seq f49_c22 f49_c46
def f49_c48 : MC := .blk 3 f49_c47
def f49_c49 : MC := .seq f49_c21 f49_c48
def f49_c50 : MC := .loop f49_c49
def f49_c51 : MC := .blk 2 f49_c50
def f49_c52 : MC := .seq f49_c16 f49_c51
def f49_c53 : MC := .seq f49_c15 f49_c52
def f49_c54 : MC := .seq f49_c1 f49_c53
def f49_c55 : MC := .seq f49_c0 f49_c54
noncomputable def f49_code : Code := (Go.Proofs.Tryd.f49.body).getD .skip
theorem f49_body : Go.Proofs.Tryd.f49.body = Qp f49_code := by kernel_rfl
theorem f49_tr : trC Go.Proofs.Tryd.prog [] f49_code = Qp f49_c55 := by kernel_rfl
theorem f49_rs : rsOf Go.Proofs.Tryd.prog Go.Proofs.Tryd.f49.results.toList = Qp [] := by kernel_rfl
theorem f49_nt : Go.Proofs.Tryd.f49.ntmps = 63 := by kernel_rfl
theorem f49_ok : callable Go.Proofs.Tryd.prog 49 = true := by kernel_rfl
theorem f49_in {gp : Heap} {args : List V} {res : V} (h : G ⟨Go.Proofs.Tryd.prog, gp, 0, [], fun r c => r = res ∧ c = [], false⟩ [.code f49_c55, .fin] ⟨args ++ List.replicate (63 - args.length) .un, []⟩) : Does Go.Proofs.Tryd.prog gp 49 args res :=
  does_intro f49_ok Go.Proofs.Tryd.func49 f49_body f49_tr f49_rs (by rw [f49_nt]; exact h)
theorem f49_tri {gp : Heap} {args : List V} {pre : List Ch} {R : V → List Ch → Prop} (h : G ⟨Go.Proofs.Tryd.prog, gp, pre.length, [], R, false⟩ [.code f49_c55, .fin] ⟨args ++ List.replicate (63 - args.length) .un, pre⟩) : Tri Go.Proofs.Tryd.prog gp 49 args pre R :=
  tri_intro Go.Proofs.Tryd.func49 f49_body f49_tr f49_rs (by rw [f49_nt]; exact h)

/-! sigillary/arena.areAll -/
def f53_r0 : List MO := [
(Qa (Qp 2) (Qc (Qi (Qj (Qk (Qm false))))))]
def f53_c0 : MC := .reg false f53_r0
def f53_r1 : List MO := [
(Qa (Qp 3) (Qc (Qh 0))),
(Qa (Qp 4) (Qg 59 [(Qh 3), (Qi (Qj (Qk (Qm false))))])),
(Qa (Qp 5) (MOp.not (Qh 4))),
(Qa (Qp 2) (Qc (Qh 5)))]
def f53_c1 : MC := .reg false f53_r1
def f53_c2 : MC := MC.ret
def f53_c3 : MC := .seq f53_c1 f53_c2
def f53_c4 : MC := .seq f53_c0 f53_c3
noncomputable def f53_code : Code := (Go.Proofs.Tryd.f53.body).getD .skip
theorem f53_body : Go.Proofs.Tryd.f53.body = Qp f53_code := by kernel_rfl
theorem f53_tr : trC Go.Proofs.Tryd.prog [] f53_code = Qp f53_c4 := by kernel_rfl
theorem f53_rs : rsOf Go.Proofs.Tryd.prog Go.Proofs.Tryd.f53.results.toList = Qp [(RV.t 2)] := by kernel_rfl
theorem f53_nt : Go.Proofs.Tryd.f53.ntmps = 6 := by kernel_rfl
theorem f53_ok : callable Go.Proofs.Tryd.prog 53 = true := by kernel_rfl
theorem f53_in {gp : Heap} {args : List V} {res : V} (h : G ⟨Go.Proofs.Tryd.prog, gp, 0, [(RV.t 2)], fun r c => r = res ∧ c = [], false⟩ [.code f53_c4, .fin] ⟨args ++ List.replicate (6 - args.length) .un, []⟩) : Does Go.Proofs.Tryd.prog gp 53 args res :=
  does_intro f53_ok Go.Proofs.Tryd.func53 f53_body f53_tr f53_rs (by rw [f53_nt]; exact h)
theorem f53_tri {gp : Heap} {args : List V} {pre : List Ch} {R : V → List Ch → Prop} (h : G ⟨Go.Proofs.Tryd.prog, gp, pre.length, [(RV.t 2)], R, false⟩ [.code f53_c4, .fin] ⟨args ++ List.replicate (6 - args.length) .un, pre⟩) : Tri Go.Proofs.Tryd.prog gp 53 args pre R :=
  tri_intro Go.Proofs.Tryd.func53 f53_body f53_tr f53_rs (by rw [f53_nt]; exact h)

/-! sigillary/plain.Right -/
def f54_r0 : List MO := [
(Qa (Qp 1) (MOp.ibox (Qh 0))),
(Qa (Qp 2) (Qc (Qi (Qj (Qk (Qm false))))))]
def f54_c0 : MC := .reg false f54_r0
def f54_r1 : List MO := [
(Qa (Qp 3) (Qf 0 (Qh 1))),
(Qa (Qp 4) (Qe 1 false (Qh 3)))]
def f54_c1 : MC := .reg false f54_r1
def f54_r2 : List MO := [
(Qa (Qp 6) (Qd Qn Go.BinOp.eql (Qh 4) (Qi (Qj (Qk (Ql Qo 0)))))),
(Qa (Qp 5) (Qc (Qh 6)))]
def f54_c2 : MC := .reg false f54_r2
def f54_r3 : List MO := [
(Qa (Qp 7) (Qe 3 true (Qh 1))),
(Qa (Qp 8) (MOp.build [(Ql Qo 0), (Ql Qo 0), (D.str (ByteArray.mk #[]))] [])),
(Qa (Qp 9) (MOp.eqs false [Qn, Qn, Leaf.s] (Qh 7) (Qh 8))),
(Qa (Qp 2) (Qc (Qh 9)))]
def f54_c3 : MC := .reg false f54_r3
def f54_c4 : MC := MC.ret
def f54_c5 : MC := .seq f54_c3 f54_c4
def f54_r6 : List MO := [
(Qa (Qp 11) (Qd Qn Go.BinOp.eql (Qh 4) (Qi (Qj (Qk (Ql Qo 1)))))),
(Qa (Qp 10) (Qc (Qh 11)))]
def f54_c6 : MC := .reg false f54_r6
def f54_r7 : List MO := [
(Qa (Qp 12) (Qf 2 (Qh 1))),
(Qa (Qp 13) (Qe 1 false (Qh 12))),
(Qa (Qp 14) (Qd Leaf.s Go.BinOp.eql (Qh 13) (Qi (Qj (Qk (D.str (ByteArray.mk #[]))))))),
(Qa (Qp 15) (Qc (Qh 14))),
(Qb 15 true (Qp 16)),
(Qa (Qp 16) (Qf 1 (Qh 1))),
(Qb 15 true (Qp 17)),
(Qa (Qp 17) (Qe 1 false (Qh 16))),
(Qb 15 true (Qp 18)),
(Qa (Qp 18) (Qd Qn Go.BinOp.eql (Qh 17) (Qi (Qj (Qk (Ql Qo 0)))))),
(Qb 15 true (Qp 19)),
(Qa (Qp 19) (Qc (Qh 18))),
(Qb 19 false (Qp 20)),
(Qa (Qp 20) (Qf 1 (Qh 1))),
(Qb 19 false (Qp 21)),
(Qa (Qp 21) (Qe 1 false (Qh 20))),
(Qb 19 false (Qp 22)),
(Qa (Qp 22) (Qd Qn Go.BinOp.eql (Qh 21) (Qi (Qj (Qk (Ql Qo 1)))))),
(Qb 15 true (Qp 23)),
(Qa (Qp 23) (MOp.pick (Qh 19) (Qi (Qj (Qk (Qm true)))) (Qh 22))),
(Qa (Qp 24) (MOp.pick (Qh 15) (Qh 23) (Qi (Qj (Qk (Qm false)))))),
(Qa (Qp 2) (Qc (Qh 24)))]
def f54_c7 : MC := .reg false f54_r7
def f54_c8 : MC := MC.ret
def f54_c9 : MC := .seq f54_c7 f54_c8
def f54_r10 : List MO := [
(Qa (Qp 26) (Qd Qn Go.BinOp.eql (Qh 4) (Qi (Qj (Qk (Ql Qo 2)))))),
(Qa (Qp 25) (Qc (Qh 26)))]
def f54_c10 : MC := .reg false f54_r10
def f54_r11 : List MO := [
(Qa (Qp 27) (Qf 2 (Qh 1))),
(Qa (Qp 28) (Qe 1 false (Qh 27))),
(Qa (Qp 29) (Qd Leaf.s Go.BinOp.eql (Qh 28) (Qi (Qj (Qk (D.str (ByteArray.mk #[]))))))),
(Qa (Qp 30) (Qc (Qh 29))),
(Qb 30 true (Qp 31)),
(Qa (Qp 31) (Qf 1 (Qh 1))),
(Qb 30 true (Qp 32)),
(Qa (Qp 32) (Qe 1 false (Qh 31))),
(Qb 30 true (Qp 33)),
(Qa (Qp 33) (Qd Qn Go.BinOp.geq (Qh 32) (Qi (Qj (Qk (Ql Qo (-999999999999999))))))),
(Qa (Qp 34) (MOp.pick (Qh 30) (Qh 33) (Qi (Qj (Qk (Qm false)))))),
(Qa (Qp 35) (Qc (Qh 34))),
(Qb 35 true (Qp 36)),
(Qa (Qp 36) (Qf 1 (Qh 1))),
(Qb 35 true (Qp 37)),
(Qa (Qp 37) (Qe 1 false (Qh 36))),
(Qb 35 true (Qp 38)),
(Qa (Qp 38) (Qd Qn Go.BinOp.leq (Qh 37) (Qi (Qj (Qk (Ql Qo 999999999999999)))))),
(Qa (Qp 39) (MOp.pick (Qh 35) (Qh 38) (Qi (Qj (Qk (Qm false)))))),
(Qa (Qp 2) (Qc (Qh 39)))]
def f54_c11 : MC := .reg false f54_r11
def f54_c12 : MC := MC.ret
def f54_c13 : MC := .seq f54_c11 f54_c12
def f54_r14 : List MO := [
(Qa (Qp 41) (Qd Qn Go.BinOp.eql (Qh 4) (Qi (Qj (Qk (Ql Qo 3)))))),
(Qa (Qp 40) (Qc (Qh 41)))]
def f54_c14 : MC := .reg false f54_r14
def f54_r15 : List MO := [
(Qa (Qp 42) (Qf 1 (Qh 1))),
(Qa (Qp 43) (Qe 1 false (Qh 42))),
(Qa (Qp 44) (Qd Qn Go.BinOp.eql (Qh 43) (Qi (Qj (Qk (Ql Qo 0)))))),
(Qa (Qp 45) (Qc (Qh 44))),
(Qb 45 true (Qp 46)),
(Qa (Qp 46) (Qf 2 (Qh 1))),
(Qb 45 true (Qp 47)),
(Qa (Qp 47) (Qe 1 false (Qh 46))),
(Qb 45 true (Qp 48)),
(Qa (Qp 48) (Qg 60 [(Qh 47)])),
(Qa (Qp 49) (MOp.pick (Qh 45) (Qh 48) (Qi (Qj (Qk (Qm false)))))),
(Qa (Qp 2) (Qc (Qh 49)))]
def f54_c15 : MC := .reg false f54_r15
def f54_c16 : MC := MC.ret
def f54_c17 : MC := .seq f54_c15 f54_c16
def f54_c18 : MC := MC.skip
def f54_c19 : MC := .cond (Qh 40) f54_c17 f54_c18
def f54_c20 : MC := .seq f54_c14 f54_c19
def f54_c21 : MC := .cond (Qh 25) f54_c13 f54_c20
def f54_c22 : MC := .seq f54_c10 f54_c21
def f54_c23 : MC := .cond (Qh 10) f54_c9 f54_c22
def f54_c24 : MC := .seq f54_c6 f54_c23
def f54_c25 : MC := .cond (Qh 5) f54_c5 f54_c24
def f54_c26 : MC := .seq f54_c2 f54_c25
def f54_c27 : MC := .blk 0 f54_c26
def f54_c28 : MC := .seq f54_c1 f54_c27
def f54_r29 : List MO := [
(Qa (Qp 2) (Qc (Qi (Qj (Qk (Qm false))))))]
def f54_c29 : MC := .reg false f54_r29
def f54_c30 : MC := MC.ret
def f54_c31 : MC := .seq f54_c29 f54_c30
def f54_c32 : MC := .seq f54_c28 f54_c31
def f54_c33 : MC := .seq f54_c0 f54_c32
noncomputable def f54_code : Code := (Go.Proofs.Tryd.f54.body).getD .skip
theorem f54_body : Go.Proofs.Tryd.f54.body = Qp f54_code := by kernel_rfl
theorem f54_tr : trC Go.Proofs.Tryd.prog [1] f54_code = Qp f54_c33 := by kernel_rfl
theorem f54_rs : rsOf Go.Proofs.Tryd.prog Go.Proofs.Tryd.f54.results.toList = Qp [(RV.t 2)] := by kernel_rfl
theorem f54_nt : Go.Proofs.Tryd.f54.ntmps = 50 := by kernel_rfl
theorem f54_ok : callable Go.Proofs.Tryd.prog 54 = true := by kernel_rfl
theorem f54_in {gp : Heap} {args : List V} {res : V} (h : G ⟨Go.Proofs.Tryd.prog, gp, 0, [(RV.t 2)], fun r c => r = res ∧ c = [], false⟩ [.code f54_c33, .fin] ⟨args ++ List.replicate (50 - args.length) .un, []⟩) : Does Go.Proofs.Tryd.prog gp 54 args res :=
  does_intro f54_ok Go.Proofs.Tryd.func54 f54_body f54_tr f54_rs (by rw [f54_nt]; exact h)
theorem f54_tri {gp : Heap} {args : List V} {pre : List Ch} {R : V → List Ch → Prop} (h : G ⟨Go.Proofs.Tryd.prog, gp, pre.length, [(RV.t 2)], R, false⟩ [.code f54_c33, .fin] ⟨args ++ List.replicate (50 - args.length) .un, pre⟩) : Tri Go.Proofs.Tryd.prog gp 54 args pre R :=
  tri_intro Go.Proofs.Tryd.func54 f54_body f54_tr f54_rs (by rw [f54_nt]; exact h)

/-! (sigillary/arena.view).areKids -/
def f55_r0 : List MO := [
(Qa (Qp 1) (MOp.ibox (Qh 0))),
(Qa (Qp 2) (Qc (Qi (Qj (Qk (Qm false))))))]
def f55_c0 : MC := .reg false f55_r0
def f55_r1 : List MO := [
(Qa (Qp 4) (MOp.mkF (Go.Fn.func 61) [(Qh 1)])),
(Qa (Qp 3) (Qc (Qh 4)))]
def f55_c1 : MC := .reg false f55_r1
def f55_r2 : List MO := [
(Qa (Qp 5) (Qf 0 (Qh 1))),
(Qa (Qp 6) (Qf 5 (Qh 5))),
(Qa (Qp 7) (Qe 1 false (Qh 6))),
(Qa (Qp 8) (Qc (Qh 3))),
(Qa (Qp 9) (Qg 62 [(Qh 7), (Qh 8)])),
(Qa (Qp 10) (MOp.not (Qh 9))),
(Qa (Qp 2) (Qc (Qh 10)))]
def f55_c2 : MC := .reg false f55_r2
def f55_c3 : MC := MC.ret
def f55_c4 : MC := .seq f55_c2 f55_c3
def f55_c5 : MC := .seq f55_c1 f55_c4
def f55_c6 : MC := .seq f55_c0 f55_c5
noncomputable def f55_code : Code := (Go.Proofs.Tryd.f55.body).getD .skip
theorem f55_body : Go.Proofs.Tryd.f55.body = Qp f55_code := by kernel_rfl
theorem f55_tr : trC Go.Proofs.Tryd.prog [1] f55_code = Qp f55_c6 := by kernel_rfl
theorem f55_rs : rsOf Go.Proofs.Tryd.prog Go.Proofs.Tryd.f55.results.toList = Qp [(RV.t 2)] := by kernel_rfl
theorem f55_nt : Go.Proofs.Tryd.f55.ntmps = 11 := by kernel_rfl
theorem f55_ok : callable Go.Proofs.Tryd.prog 55 = true := by kernel_rfl
theorem f55_in {gp : Heap} {args : List V} {res : V} (h : G ⟨Go.Proofs.Tryd.prog, gp, 0, [(RV.t 2)], fun r c => r = res ∧ c = [], false⟩ [.code f55_c6, .fin] ⟨args ++ List.replicate (11 - args.length) .un, []⟩) : Does Go.Proofs.Tryd.prog gp 55 args res :=
  does_intro f55_ok Go.Proofs.Tryd.func55 f55_body f55_tr f55_rs (by rw [f55_nt]; exact h)
theorem f55_tri {gp : Heap} {args : List V} {pre : List Ch} {R : V → List Ch → Prop} (h : G ⟨Go.Proofs.Tryd.prog, gp, pre.length, [(RV.t 2)], R, false⟩ [.code f55_c6, .fin] ⟨args ++ List.replicate (11 - args.length) .un, pre⟩) : Tri Go.Proofs.Tryd.prog gp 55 args pre R :=
  tri_intro Go.Proofs.Tryd.func55 f55_body f55_tr f55_rs (by rw [f55_nt]; exact h)

/-! (sigillary/arena.view).areKeys -/
def f56_r0 : List MO := [
(Qa (Qp 1) (MOp.ibox (Qh 0))),
(Qa (Qp 2) (Qc (Qi (Qj (Qk (Qm false))))))]
def f56_c0 : MC := .reg false f56_r0
def f56_r1 : List MO := [
(Qa (Qp 3) (Qc (Qi (Qj (Qk (D.fn (Go.Fn.func 63) []))))))]
def f56_c1 : MC := .reg false f56_r1
def f56_r2 : List MO := [
(Qa (Qp 4) (Qf 0 (Qh 1))),
(Qa (Qp 5) (Qf 4 (Qh 4))),
(Qa (Qp 6) (Qe 1 false (Qh 5))),
(Qa (Qp 7) (Qc (Qh 3))),
(Qa (Qp 8) (Qg 64 [(Qh 6), (Qh 7)])),
(Qa (Qp 9) (MOp.not (Qh 8))),
(Qa (Qp 10) (Qc (Qh 9))),
(Qb 10 true (Qp 11)),
(Qa (Qp 11) (Qf 0 (Qh 1))),
(Qb 10 true (Qp 12)),
(Qa (Qp 12) (Qf 4 (Qh 11))),
(Qb 10 true (Qp 13)),
(Qa (Qp 13) (Qe 1 false (Qh 12))),
(Qb 10 true (Qp 14)),
(Qa (Qp 14) (Qg 65 [(Qh 13)])),
(Qb 10 true (Qp 15)),
(Qa (Qp 15) (MOp.not (Qh 14))),
(Qa (Qp 16) (MOp.pick (Qh 10) (Qh 15) (Qi (Qj (Qk (Qm false)))))),
(Qa (Qp 2) (Qc (Qh 16)))]
def f56_c2 : MC := .reg false f56_r2
def f56_c3 : MC := MC.ret
def f56_c4 : MC := .seq f56_c2 f56_c3
def f56_c5 : MC := .seq f56_c1 f56_c4
def f56_c6 : MC := .seq f56_c0 f56_c5
noncomputable def f56_code : Code := (Go.Proofs.Tryd.f56.body).getD .skip
theorem f56_body : Go.Proofs.Tryd.f56.body = Qp f56_code := by kernel_rfl
theorem f56_tr : trC Go.Proofs.Tryd.prog [1] f56_code = Qp f56_c6 := by kernel_rfl
theorem f56_rs : rsOf Go.Proofs.Tryd.prog Go.Proofs.Tryd.f56.results.toList = Qp [(RV.t 2)] := by kernel_rfl
theorem f56_nt : Go.Proofs.Tryd.f56.ntmps = 17 := by kernel_rfl
theorem f56_ok : callable Go.Proofs.Tryd.prog 56 = true := by kernel_rfl
theorem f56_in {gp : Heap} {args : List V} {res : V} (h : G ⟨Go.Proofs.Tryd.prog, gp, 0, [(RV.t 2)], fun r c => r = res ∧ c = [], false⟩ [.code f56_c6, .fin] ⟨args ++ List.replicate (17 - args.length) .un, []⟩) : Does Go.Proofs.Tryd.prog gp 56 args res :=
  does_intro f56_ok Go.Proofs.Tryd.func56 f56_body f56_tr f56_rs (by rw [f56_nt]; exact h)
theorem f56_tri {gp : Heap} {args : List V} {pre : List Ch} {R : V → List Ch → Prop} (h : G ⟨Go.Proofs.Tryd.prog, gp, pre.length, [(RV.t 2)], R, false⟩ [.code f56_c6, .fin] ⟨args ++ List.replicate (17 - args.length) .un, pre⟩) : Tri Go.Proofs.Tryd.prog gp 56 args pre R :=
  tri_intro Go.Proofs.Tryd.func56 f56_body f56_tr f56_rs (by rw [f56_nt]; exact h)

/-! slices.insertionSortCmpFunc[sigillary/arena.pair] -/
def f57_r0 : List MO := [
(Qa (Qp 10) (Qc (Qh 1))),
(Qa (Qp 11) (Qd Qn Go.BinOp.add (Qh 10) (Qi (Qj (Qk (Ql Qo 1)))))),
(Qa (Qp 8) (Qc (Qh 11)))]
def f57_c0 : MC := .reg false f57_r0
def f57_r1 : List MO := [
(Qa (Qp 12) (Qc (Qh 8))),
(Qa (Qp 13) (Qc (Qh 2))),
(Qa (Qp 14) (Qd Qn Go.BinOp.lss (Qh 12) (Qh 13)))]
def f57_c1 : MC := .reg false f57_r1
def f57_c2 : MC := MC.skip
def f57_c3 : MC := (MC.exit 0)
def f57_c4 : MC := .cond (Qh 14) f57_c2 f57_c3
def f57_c5 : MC := .seq f57_c1 f57_c4
def f57_r6 : List MO := [
(Qa (Qp 17) (Qc (Qh 8))),
(Qa (Qp 9) (Qc (Qh 17)))]
def f57_c6 : MC := .reg false f57_r6
def f57_r7 : List MO := [
(Qa (Qp 18) (Qc (Qh 9))),
(Qa (Qp 19) (Qc (Qh 1))),
(Qa (Qp 20) (Qd Qn Go.BinOp.gtr (Qh 18) (Qh 19))),
(Qa (Qp 21) (Qc (Qh 20))),
(Qb 21 true (Qp 22)),
(Qa (Qp 22) (Qc (Qh 3))),
(Qb 21 true (Qp 23)),
(Qa (Qp 23) (Qc (Qh 0))),
(Qb 21 true (Qp 24)),
(Qa (Qp 24) (Qc (Qh 9))),
(Qb 21 true (Qp 25)),
(Qa (Qp 25) (MOp.iad 4 (Qh 23) (Qh 24))),
(Qb 21 true (Qp 26)),
(Qa (Qp 26) (Qe 4 true (Qh 25))),
(Qb 21 true (Qp 27)),
(Qa (Qp 27) (Qc (Qh 0))),
(Qb 21 true (Qp 28)),
(Qa (Qp 28) (Qc (Qh 9))),
(Qb 21 true (Qp 29)),
(Qa (Qp 29) (Qd Qn Go.BinOp.sub (Qh 28) (Qi (Qj (Qk (Ql Qo 1)))))),
(Qb 21 true (Qp 30)),
(Qa (Qp 30) (MOp.iad 4 (Qh 27) (Qh 29))),
(Qb 21 true (Qp 31)),
(Qa (Qp 31) (Qe 4 true (Qh 30))),
(Qb 21 true (Qp 32)),
(Qa (Qp 32) (MOp.callv (Qh 22) [(Qh 26), (Qh 31)])),
(Qb 21 true (Qp 33)),
(Qa (Qp 33) (Qd Qn Go.BinOp.lss (Qh 32) (Qi (Qj (Qk (Ql Qo 0)))))),
(Qa (Qp 34) (MOp.pick (Qh 21) (Qh 33) (Qi (Qj (Qk (Qm false))))))]
def f57_c7 : MC := .reg true f57_r7
def f57_c8 : MC := MC.skip
def f57_c9 : MC := (MC.exit 2)
def f57_c10 : MC := .cond (Qh 34) f57_c8 f57_c9
def f57_c11 : MC := .seq f57_c7 f57_c10
def f57_r12 : List MO := [
(Qa (Qp 37) (Qc (Qh 0))),
(Qa (Qp 38) (Qc (Qh 9))),
(Qa (Qp 39) (Qc (Qh 0))),
(Qa (Qp 40) (Qc (Qh 9))),
(Qa (Qp 41) (Qd Qn Go.BinOp.sub (Qh 40) (Qi (Qj (Qk (Ql Qo 1)))))),
(Qa (Qp 42) (Qc (Qh 0))),
(Qa (Qp 43) (Qc (Qh 9))),
(Qa (Qp 44) (Qd Qn Go.BinOp.sub (Qh 43) (Qi (Qj (Qk (Ql Qo 1)))))),
(Qa (Qp 45) (MOp.iad 4 (Qh 42) (Qh 44))),
(Qa (Qp 46) (Qe 4 true (Qh 45))),
(Qa (Qp 47) (Qc (Qh 0))),
(Qa (Qp 48) (Qc (Qh 9))),
(Qa (Qp 49) (MOp.iad 4 (Qh 47) (Qh 48))),
(Qa (Qp 50) (Qe 4 true (Qh 49))),
(Qa (Qp 51) (MOp.iad 4 (Qh 37) (Qh 38))),
(Qa none (MOp.store 4 (Qh 51) (Qh 46))),
(Qa (Qp 52) (MOp.iad 4 (Qh 39) (Qh 41))),
(Qa none (MOp.store 4 (Qh 52) (Qh 50)))]
def f57_c12 : MC := .reg true f57_r12
def f57_c13 : MC := .blk 3 f57_c12
def f57_r14 : List MO := [
(Qa (Qp 35) (Qc (Qh 9))),
(Qa (Qp 36) (Qd Qn Go.BinOp.sub (Qh 35) (Qi (Qj (Qk (Ql Qo 1)))))),
(Qa (Qp 9) (Qc (Qh 36)))]
def f57_c14 : MC := .reg false f57_r14
def f57_c15 : MC := .seq f57_c13 f57_c14
def f57_c16 : MC := .seq f57_c11 f57_c15
def f57_c17 : MC := .loop f57_c16
def f57_c18 : MC := .blk 2 f57_c17
def f57_c19 : MC := .seq f57_c6 f57_c18
def f57_c20 : MC := .blk 1 f57_c19
def f57_r21 : List MO := [
(Qa (Qp 15) (Qc (Qh 8))),
(Qa (Qp 16) (Qd Qn Go.BinOp.add (Qh 15) (Qi (Qj (Qk (Ql Qo 1)))))),
(Qa (Qp 8) (Qc (Qh 16)))]
def f57_c21 : MC := .reg false f57_r21
def f57_c22 : MC := .seq f57_c20 f57_c21
def f57_c23 : MC := .seq f57_c5 f57_c22
def f57_c24 : MC := .loop f57_c23
def f57_c25 : MC := .blk 0 f57_c24
def f57_c26 : MC := .seq f57_c0 f57_c25
noncomputable def f57_code : Code := (Go.Proofs.Tryd.f57.body).getD .skip
theorem f57_body : Go.Proofs.Tryd.f57.body = Qp f57_code := by kernel_rfl
theorem f57_tr : trC Go.Proofs.Tryd.prog [] f57_code = Qp f57_c26 := by kernel_rfl
theorem f57_rs : rsOf Go.Proofs.Tryd.prog Go.Proofs.Tryd.f57.results.toList = Qp [] := by kernel_rfl
theorem f57_nt : Go.Proofs.Tryd.f57.ntmps = 53 := by kernel_rfl
theorem f57_ok : callable Go.Proofs.Tryd.prog 57 = true := by kernel_rfl
theorem f57_in {gp : Heap} {args : List V} {res : V} (h : G ⟨Go.Proofs.Tryd.prog, gp, 0, [], fun r c => r = res ∧ c = [], false⟩ [.code f57_c26, .fin] ⟨args ++ List.replicate (53 - args.length) .un, []⟩) : Does Go.Proofs.Tryd.prog gp 57 args res :=
  does_intro f57_ok Go.Proofs.Tryd.func57 f57_body f57_tr f57_rs (by rw [f57_nt]; exact h)
theorem f57_tri {gp : Heap} {args : List V} {pre : List Ch} {R : V → List Ch → Prop} (h : G ⟨Go.Proofs.Tryd.prog, gp, pre.length, [], R, false⟩ [.code f57_c26, .fin] ⟨args ++ List.replicate (53 - args.length) .un, pre⟩) : Tri Go.Proofs.Tryd.prog gp 57 args pre R :=
  tri_intro Go.Proofs.Tryd.func57 f57_body f57_tr f57_rs (by rw [f57_nt]; exact h)

/-! slices.Contains[[]bool,bool] -/
def f59_r0 : List MO := [
(Qa (Qp 4) (Qc (Qi (Qj (Qk (Qm false))))))]
def f59_c0 : MC := .reg false f59_r0
def f59_r1 : List MO := [
(Qa (Qp 5) (Qc (Qh 0))),
(Qa (Qp 6) (Qc (Qh 1))),
(Qa (Qp 7) (Qg 67 [(Qh 5), (Qh 6)])),
(Qa (Qp 8) (Qd Qn Go.BinOp.geq (Qh 7) (Qi (Qj (Qk (Ql Qo 0)))))),
(Qa (Qp 4) (Qc (Qh 8)))]
def f59_c1 : MC := .reg false f59_r1
def f59_c2 : MC := MC.ret
def f59_c3 : MC := .seq f59_c1 f59_c2
def f59_c4 : MC := .seq f59_c0 f59_c3
noncomputable def f59_code : Code := (Go.Proofs.Tryd.f59.body).getD .skip
theorem f59_body : Go.Proofs.Tryd.f59.body = Qp f59_code := by kernel_rfl
theorem f59_tr : trC Go.Proofs.Tryd.prog [] f59_code = Qp f59_c4 := by kernel_rfl
theorem f59_rs : rsOf Go.Proofs.Tryd.prog Go.Proofs.Tryd.f59.results.toList = Qp [(RV.t 4)] := by kernel_rfl
theorem f59_nt : Go.Proofs.Tryd.f59.ntmps = 9 := by kernel_rfl
theorem f59_ok : callable Go.Proofs.Tryd.prog 59 = true := by kernel_rfl
theorem f59_in {gp : Heap} {args : List V} {res : V} (h : G ⟨Go.Proofs.Tryd.prog, gp, 0, [(RV.t 4)], fun r c => r = res ∧ c = [], false⟩ [.code f59_c4, .fin] ⟨args ++ List.replicate (9 - args.length) .un, []⟩) : Does Go.Proofs.Tryd.prog gp 59 args res :=
  does_intro f59_ok Go.Proofs.Tryd.func59 f59_body f59_tr f59_rs (by rw [f59_nt]; exact h)
theorem f59_tri {gp : Heap} {args : List V} {pre : List Ch} {R : V → List Ch → Prop} (h : G ⟨Go.Proofs.Tryd.prog, gp, pre.length, [(RV.t 4)], R, false⟩ [.code f59_c4, .fin] ⟨args ++ List.replicate (9 - args.length) .un, pre⟩) : Tri Go.Proofs.Tryd.prog gp 59 args pre R :=
  tri_intro Go.Proofs.Tryd.func59 f59_body f59_tr f59_rs (by rw [f59_nt]; exact h)

/-! sigillary/quote.Right -/
def f60_r0 : List MO := [
(Qa (Qp 2) (Qc (Qi (Qj (Qk (Qm false))))))]
def f60_c0 : MC := .reg false f60_r0
def f60_r1 : List MO := [
(Qa (Qp 7) (Qc (Qh 0))),
(Qa (Qp 8) (MOp.rng (Qh 7)))]
def f60_c1 : MC := .reg false f60_r1
def f60_r2 : List MO := [
(Qa (Qp 9) (MOp.nxt (Qh 8))),
(Qa (Qp 10) (MOp.ext (Qh 9) 0))]
def f60_c2 : MC := .reg false f60_r2
def f60_c3 : MC := MC.skip
def f60_c4 : MC := (MC.exit 0)
def f60_c5 : MC := .cond (Qh 10) f60_c3 f60_c4
def f60_r6 : List MO := [
(Qa (Qp 11) (MOp.ext (Qh 9) 1)),
(Qa (Qp 12) (MOp.ext (Qh 9) 2)),
(Qa (Qp 3) (Qc (Qh 11))),
(Qa (Qp 4) (Qc (Qh 12)))]
def f60_c6 : MC := .reg false f60_r6
def f60_r7 : List MO := [
(Qa (Qp 14) (Qc (Qh 0))),
(Qa (Qp 15) (Qc (Qh 3))),
(Qa (Qp 16) (MOp.slcS (Qh 14) (Qp (Qh 15)) none)),
(Qa (Qp 17) (Qg 68 [(Qh 16)])),
(Qa (Qp 13) (Qc (Qh 17))),
(Qa (Qp 18) (MOp.ext (Qh 13) 0)),
(Qa (Qp 19) (MOp.ext (Qh 13) 1)),
(Qa (Qp 5) (Qc (Qh 18))),
(Qa (Qp 6) (Qc (Qh 19)))]
def f60_c7 : MC := .reg false f60_r7
def f60_r8 : List MO := [
(Qa (Qp 20) (Qc (Qh 4))),
(Qa (Qp 21) (Qd Qn Go.BinOp.eql (Qh 20) (Qi (Qj (Qk (Ql Go.IntKind.i32 65533)))))),
(Qa (Qp 22) (Qc (Qh 21))),
(Qb 22 true (Qp 23)),
(Qa (Qp 23) (Qc (Qh 6))),
(Qb 22 true (Qp 24)),
(Qa (Qp 24) (Qd Qn Go.BinOp.eql (Qh 23) (Qi (Qj (Qk (Ql Qo 1)))))),
(Qa (Qp 25) (MOp.pick (Qh 22) (Qh 24) (Qi (Qj (Qk (Qm false))))))]
def f60_c8 : MC := .reg false f60_r8
def f60_r9 : List MO := [
(Qa (Qp 2) (Qc (Qi (Qj (Qk (Qm false))))))]
def f60_c9 : MC := .reg false f60_r9
def f60_c10 : MC := MC.ret
def f60_c11 : MC := .seq f60_c9 f60_c10
def f60_c12 : MC := MC.skip
def f60_c13 : MC := .cond (Qh 25) f60_c11 f60_c12
def f60_c14 : MC := .seq f60_c8 f60_c13
def f60_c15 : MC := .seq f60_c7 f60_c14
def f60_c16 : MC := .seq f60_c6 f60_c15
def f60_c17 : MC := .blk 1 f60_c16
def f60_c18 : MC := .seq f60_c5 f60_c17
def f60_c19 : MC := .seq f60_c2 f60_c18
def f60_c20 : MC := .loop f60_c19
def f60_c21 : MC := .blk 0 f60_c20
def f60_c22 : MC := .seq f60_c1 f60_c21
def f60_r23 : List MO := [
(Qa (Qp 2) (Qc (Qi (Qj (Qk (Qm true))))))]
def f60_c23 : MC := .reg false f60_r23
def f60_c24 : MC := MC.ret
def f60_c25 : MC := .seq f60_c23 f60_c24
def f60_c26 : MC := .seq f60_c22 f60_c25
def f60_c27 : MC := .seq f60_c0 f60_c26
noncomputable def f60_code : Code := (Go.Proofs.Tryd.f60.body).getD .skip
theorem f60_body : Go.Proofs.Tryd.f60.body = Qp f60_code := by kernel_rfl
theorem f60_tr : trC Go.Proofs.Tryd.prog [] f60_code = Qp f60_c27 := by kernel_rfl
theorem f60_rs : rsOf Go.Proofs.Tryd.prog Go.Proofs.Tryd.f60.results.toList = Qp [(RV.t 2)] := by kernel_rfl
theorem f60_nt : Go.Proofs.Tryd.f60.ntmps = 26 := by kernel_rfl
theorem f60_ok : callable Go.Proofs.Tryd.prog 60 = true := by kernel_rfl
theorem f60_in {gp : Heap} {args : List V} {res : V} (h : G ⟨Go.Proofs.Tryd.prog, gp, 0, [(RV.t 2)], fun r c => r = res ∧ c = [], false⟩ [.code f60_c27, .fin] ⟨args ++ List.replicate (26 - args.length) .un, []⟩) : Does Go.Proofs.Tryd.prog gp 60 args res :=
  does_intro f60_ok Go.Proofs.Tryd.func60 f60_body f60_tr f60_rs (by rw [f60_nt]; exact h)
theorem f60_tri {gp : Heap} {args : List V} {pre : List Ch} {R : V → List Ch → Prop} (h : G ⟨Go.Proofs.Tryd.prog, gp, pre.length, [(RV.t 2)], R, false⟩ [.code f60_c27, .fin] ⟨args ++ List.replicate (26 - args.length) .un, pre⟩) : Tri Go.Proofs.Tryd.prog gp 60 args pre R :=
  tri_intro Go.Proofs.Tryd.func60 f60_body f60_tr f60_rs (by rw [f60_nt]; exact h)

/-! (sigillary/arena.view).areKids$1 -/
def f61_r0 : List MO := [
(Qa (Qp 3) (Qc (Qi (Qj (Qk (Qm false))))))]
def f61_c0 : MC := .reg false f61_r0
def f61_r1 : List MO := [
(Qa (Qp 4) (Qc (Qh 0))),
(Qa (Qp 5) (Qd Qn Go.BinOp.lss (Qh 4) (Qi (Qj (Qk (Ql Qo 0)))))),
(Qa (Qp 6) (Qc (Qh 5))),
(Qb 6 false (Qp 7)),
(Qa (Qp 7) (Qc (Qh 0))),
(Qb 6 false (Qp 8)),
(Qa (Qp 8) (Qf 6 (Qh 1))),
(Qb 6 false (Qp 9)),
(Qa (Qp 9) (Qe 1 false (Qh 8))),
(Qb 6 false (Qp 10)),
(Qa (Qp 10) (Qd Qn Go.BinOp.geq (Qh 7) (Qh 9))),
(Qa (Qp 11) (MOp.pick (Qh 6) (Qi (Qj (Qk (Qm true)))) (Qh 10))),
(Qa (Qp 3) (Qc (Qh 11)))]
def f61_c1 : MC := .reg false f61_r1
def f61_c2 : MC := MC.ret
def f61_c3 : MC := .seq f61_c1 f61_c2
def f61_c4 : MC := .seq f61_c0 f61_c3
noncomputable def f61_code : Code := (Go.Proofs.Tryd.f61.body).getD .skip
theorem f61_body : Go.Proofs.Tryd.f61.body = Qp f61_code := by kernel_rfl
theorem f61_tr : trC Go.Proofs.Tryd.prog [] f61_code = Qp f61_c4 := by kernel_rfl
theorem f61_rs : rsOf Go.Proofs.Tryd.prog Go.Proofs.Tryd.f61.results.toList = Qp [(RV.t 3)] := by kernel_rfl
theorem f61_nt : Go.Proofs.Tryd.f61.ntmps = 12 := by kernel_rfl
theorem f61_ok : callable Go.Proofs.Tryd.prog 61 = true := by kernel_rfl
theorem f61_in {gp : Heap} {args : List V} {res : V} (h : G ⟨Go.Proofs.Tryd.prog, gp, 0, [(RV.t 3)], fun r c => r = res ∧ c = [], false⟩ [.code f61_c4, .fin] ⟨args ++ List.replicate (12 - args.length) .un, []⟩) : Does Go.Proofs.Tryd.prog gp 61 args res :=
  does_intro f61_ok Go.Proofs.Tryd.func61 f61_body f61_tr f61_rs (by rw [f61_nt]; exact h)
theorem f61_tri {gp : Heap} {args : List V} {pre : List Ch} {R : V → List Ch → Prop} (h : G ⟨Go.Proofs.Tryd.prog, gp, pre.length, [(RV.t 3)], R, false⟩ [.code f61_c4, .fin] ⟨args ++ List.replicate (12 - args.length) .un, pre⟩) : Tri Go.Proofs.Tryd.prog gp 61 args pre R :=
  tri_intro Go.Proofs.Tryd.func61 f61_body f61_tr f61_rs (by rw [f61_nt]; exact h)

/-! slices.ContainsFunc[[]int,int] -/
def f62_r0 : List MO := [
(Qa (Qp 4) (Qc (Qi (Qj (Qk (Qm false))))))]
def f62_c0 : MC := .reg false f62_r0
def f62_r1 : List MO := [
(Qa (Qp 5) (Qc (Qh 0))),
(Qa (Qp 6) (Qc (Qh 1))),
(Qa (Qp 7) (Qg 69 [(Qh 5), (Qh 6)])),
(Qa (Qp 8) (Qd Qn Go.BinOp.geq (Qh 7) (Qi (Qj (Qk (Ql Qo 0)))))),
(Qa (Qp 4) (Qc (Qh 8)))]
def f62_c1 : MC := .reg false f62_r1
def f62_c2 : MC := MC.ret
def f62_c3 : MC := .seq f62_c1 f62_c2
def f62_c4 : MC := .seq f62_c0 f62_c3
noncomputable def f62_code : Code := (Go.Proofs.Tryd.f62.body).getD .skip
theorem f62_body : Go.Proofs.Tryd.f62.body = Qp f62_code := by kernel_rfl
theorem f62_tr : trC Go.Proofs.Tryd.prog [] f62_code = Qp f62_c4 := by kernel_rfl
theorem f62_rs : rsOf Go.Proofs.Tryd.prog Go.Proofs.Tryd.f62.results.toList = Qp [(RV.t 4)] := by kernel_rfl
theorem f62_nt : Go.Proofs.Tryd.f62.ntmps = 9 := by kernel_rfl
theorem f62_ok : callable Go.Proofs.Tryd.prog 62 = true := by kernel_rfl
theorem f62_in {gp : Heap} {args : List V} {res : V} (h : G ⟨Go.Proofs.Tryd.prog, gp, 0, [(RV.t 4)], fun r c => r = res ∧ c = [], false⟩ [.code f62_c4, .fin] ⟨args ++ List.replicate (9 - args.length) .un, []⟩) : Does Go.Proofs.Tryd.prog gp 62 args res :=
  does_intro f62_ok Go.Proofs.Tryd.func62 f62_body f62_tr f62_rs (by rw [f62_nt]; exact h)
theorem f62_tri {gp : Heap} {args : List V} {pre : List Ch} {R : V → List Ch → Prop} (h : G ⟨Go.Proofs.Tryd.prog, gp, pre.length, [(RV.t 4)], R, false⟩ [.code f62_c4, .fin] ⟨args ++ List.replicate (9 - args.length) .un, pre⟩) : Tri Go.Proofs.Tryd.prog gp 62 args pre R :=
  tri_intro Go.Proofs.Tryd.func62 f62_body f62_tr f62_rs (by rw [f62_nt]; exact h)

/-! (sigillary/arena.view).areKeys$1 -/
def f63_r0 : List MO := [
(Qa (Qp 1) (MOp.ibox (Qh 0))),
(Qa (Qp 2) (Qc (Qi (Qj (Qk (Qm false))))))]
def f63_c0 : MC := .reg false f63_r0
def f63_r1 : List MO := [
(Qa (Qp 3) (Qe 3 true (Qh 1))),
(Qa (Qp 4) (Qg 54 [(Qh 3)])),
(Qa (Qp 5) (MOp.not (Qh 4))),
(Qa (Qp 2) (Qc (Qh 5)))]
def f63_c1 : MC := .reg false f63_r1
def f63_c2 : MC := MC.ret
def f63_c3 : MC := .seq f63_c1 f63_c2
def f63_c4 : MC := .seq f63_c0 f63_c3
noncomputable def f63_code : Code := (Go.Proofs.Tryd.f63.body).getD .skip
theorem f63_body : Go.Proofs.Tryd.f63.body = Qp f63_code := by kernel_rfl
theorem f63_tr : trC Go.Proofs.Tryd.prog [1] f63_code = Qp f63_c4 := by kernel_rfl
theorem f63_rs : rsOf Go.Proofs.Tryd.prog Go.Proofs.Tryd.f63.results.toList = Qp [(RV.t 2)] := by kernel_rfl
theorem f63_nt : Go.Proofs.Tryd.f63.ntmps = 6 := by kernel_rfl
theorem f63_ok : callable Go.Proofs.Tryd.prog 63 = true := by kernel_rfl
theorem f63_in {gp : Heap} {args : List V} {res : V} (h : G ⟨Go.Proofs.Tryd.prog, gp, 0, [(RV.t 2)], fun r c => r = res ∧ c = [], false⟩ [.code f63_c4, .fin] ⟨args ++ List.replicate (6 - args.length) .un, []⟩) : Does Go.Proofs.Tryd.prog gp 63 args res :=
  does_intro f63_ok Go.Proofs.Tryd.func63 f63_body f63_tr f63_rs (by rw [f63_nt]; exact h)
theorem f63_tri {gp : Heap} {args : List V} {pre : List Ch} {R : V → List Ch → Prop} (h : G ⟨Go.Proofs.Tryd.prog, gp, pre.length, [(RV.t 2)], R, false⟩ [.code f63_c4, .fin] ⟨args ++ List.replicate (6 - args.length) .un, pre⟩) : Tri Go.Proofs.Tryd.prog gp 63 args pre R :=
  tri_intro Go.Proofs.Tryd.func63 f63_body f63_tr f63_rs (by rw [f63_nt]; exact h)

/-! slices.ContainsFunc[[]sigillary/api.Scalar,sigillary/api.Scalar] -/
def f64_r0 : List MO := [
(Qa (Qp 4) (Qc (Qi (Qj (Qk (Qm false))))))]
def f64_c0 : MC := .reg false f64_r0
def f64_r1 : List MO := [
(Qa (Qp 5) (Qc (Qh 0))),
(Qa (Qp 6) (Qc (Qh 1))),
(Qa (Qp 7) (Qg 70 [(Qh 5), (Qh 6)])),
(Qa (Qp 8) (Qd Qn Go.BinOp.geq (Qh 7) (Qi (Qj (Qk (Ql Qo 0)))))),
(Qa (Qp 4) (Qc (Qh 8)))]
def f64_c1 : MC := .reg false f64_r1
def f64_c2 : MC := MC.ret
def f64_c3 : MC := .seq f64_c1 f64_c2
def f64_c4 : MC := .seq f64_c0 f64_c3
noncomputable def f64_code : Code := (Go.Proofs.Tryd.f64.body).getD .skip
theorem f64_body : Go.Proofs.Tryd.f64.body = Qp f64_code := by kernel_rfl
theorem f64_tr : trC Go.Proofs.Tryd.prog [] f64_code = Qp f64_c4 := by kernel_rfl
theorem f64_rs : rsOf Go.Proofs.Tryd.prog Go.Proofs.Tryd.f64.results.toList = Qp [(RV.t 4)] := by kernel_rfl
theorem f64_nt : Go.Proofs.Tryd.f64.ntmps = 9 := by kernel_rfl
theorem f64_ok : callable Go.Proofs.Tryd.prog 64 = true := by kernel_rfl
theorem f64_in {gp : Heap} {args : List V} {res : V} (h : G ⟨Go.Proofs.Tryd.prog, gp, 0, [(RV.t 4)], fun r c => r = res ∧ c = [], false⟩ [.code f64_c4, .fin] ⟨args ++ List.replicate (9 - args.length) .un, []⟩) : Does Go.Proofs.Tryd.prog gp 64 args res :=
  does_intro f64_ok Go.Proofs.Tryd.func64 f64_body f64_tr f64_rs (by rw [f64_nt]; exact h)
theorem f64_tri {gp : Heap} {args : List V} {pre : List Ch} {R : V → List Ch → Prop} (h : G ⟨Go.Proofs.Tryd.prog, gp, pre.length, [(RV.t 4)], R, false⟩ [.code f64_c4, .fin] ⟨args ++ List.replicate (9 - args.length) .un, pre⟩) : Tri Go.Proofs.Tryd.prog gp 64 args pre R :=
  tri_intro Go.Proofs.Tryd.func64 f64_body f64_tr f64_rs (by rw [f64_nt]; exact h)

/-! sigillary/scal.Twice -/
def f65_r0 : List MO := [
(Qa (Qp 2) (Qc (Qi (Qj (Qk (Qm false))))))]
def f65_c0 : MC := .reg false f65_r0
def f65_r1 : List MO := [
(Qa (Qp 3) (MOp.alloc [(Ql Qo 0)])),
(Qa none (MOp.store 1 (Qh 3) (Qi (Qj (Qk (Ql Qo 0))))))]
def f65_c1 : MC := .reg false f65_r1
def f65_r2 : List MO := [
(Qa (Qp 4) (Qc (Qh 0))),
(Qa (Qp 5) (Qg 71 [(Qh 4)]))]
def f65_c2 : MC := .reg false f65_r2
def f65_c3 : MC := MC.skip
def f65_r4 : List MO := [
(Qa (Qp 7) (Qe 1 false (Qh 3))),
(Qa (Qp 8) (Qd Qn Go.BinOp.add (Qh 7) (Qi (Qj (Qk (Ql Qo 1)))))),
(Qa none (MOp.store 1 (Qh 3) (Qh 8)))]
def f65_c4 : MC := .reg false f65_r4
def f65_c5 : MC := .blk 1 f65_c4
def f65_c6 : MC := .rf (Qh 5) [6] f65_c3 f65_c5
def f65_c7 : MC := .blk 0 f65_c6
def f65_c8 : MC := .seq f65_c2 f65_c7
def f65_r9 : List MO := [
(Qa (Qp 9) (Qe 1 false (Qh 3))),
(Qa (Qp 10) (Qc (Qh 0))),
(Qa (Qp 11) (MOp.len Qn (Qh 10))),
(Qa (Qp 12) (Qd Qn Go.BinOp.lss (Qh 9) (Qh 11))),
(Qa (Qp 2) (Qc (Qh 12)))]
def f65_c9 : MC := .reg false f65_r9
def f65_c10 : MC := MC.ret
def f65_c11 : MC := .seq f65_c9 f65_c10
def f65_c12 : MC := .seq f65_c8 f65_c11
def f65_c13 : MC := .seq f65_c1 f65_c12
def f65_c14 : MC := .seq f65_c0 f65_c13
noncomputable def f65_code : Code := (Go.Proofs.Tryd.f65.body).getD .skip
theorem f65_body : Go.Proofs.Tryd.f65.body = Qp f65_code := by kernel_rfl
theorem f65_tr : trC Go.Proofs.Tryd.prog [] f65_code = Qp f65_c14 := by kernel_rfl
theorem f65_rs : rsOf Go.Proofs.Tryd.prog Go.Proofs.Tryd.f65.results.toList = Qp [(RV.t 2)] := by kernel_rfl
theorem f65_nt : Go.Proofs.Tryd.f65.ntmps = 13 := by kernel_rfl
theorem f65_ok : callable Go.Proofs.Tryd.prog 65 = true := by kernel_rfl
theorem f65_in {gp : Heap} {args : List V} {res : V} (h : G ⟨Go.Proofs.Tryd.prog, gp, 0, [(RV.t 2)], fun r c => r = res ∧ c = [], false⟩ [.code f65_c14, .fin] ⟨args ++ List.replicate (13 - args.length) .un, []⟩) : Does Go.Proofs.Tryd.prog gp 65 args res :=
  does_intro f65_ok Go.Proofs.Tryd.func65 f65_body f65_tr f65_rs (by rw [f65_nt]; exact h)
theorem f65_tri {gp : Heap} {args : List V} {pre : List Ch} {R : V → List Ch → Prop} (h : G ⟨Go.Proofs.Tryd.prog, gp, pre.length, [(RV.t 2)], R, false⟩ [.code f65_c14, .fin] ⟨args ++ List.replicate (13 - args.length) .un, pre⟩) : Tri Go.Proofs.Tryd.prog gp 65 args pre R :=
  tri_intro Go.Proofs.Tryd.func65 f65_body f65_tr f65_rs (by rw [f65_nt]; exact h)

/-! slices.Index[[]bool,bool] -/
def f67_r0 : List MO := [
(Qa (Qp 4) (Qc (Qi (Qj (Qk (Ql Qo 0))))))]
def f67_c0 : MC := .reg false f67_r0
def f67_r1 : List MO := [
(Qa (Qp 6) (Qc (Qh 0))),
(Qa (Qp 7) (MOp.len Qn (Qh 6))),
(Qa (Qp 8) (Qc (Qi (Qj (Qk (Ql Qo 0))))))]
def f67_c1 : MC := .reg false f67_r1
def f67_r2 : List MO := [
(Qa (Qp 9) (Qd Qn Go.BinOp.lss (Qh 8) (Qh 7)))]
def f67_c2 : MC := .reg false f67_r2
def f67_c3 : MC := MC.skip
def f67_c4 : MC := (MC.exit 0)
def f67_c5 : MC := .cond (Qh 9) f67_c3 f67_c4
def f67_r6 : List MO := [
(Qa (Qp 10) (Qc (Qh 8))),
(Qa (Qp 5) (Qc (Qh 10)))]
def f67_c6 : MC := .reg false f67_r6
def f67_r7 : List MO := [
(Qa (Qp 11) (Qc (Qh 1))),
(Qa (Qp 12) (Qc (Qh 0))),
(Qa (Qp 13) (Qc (Qh 5))),
(Qa (Qp 14) (MOp.iad 1 (Qh 12) (Qh 13))),
(Qa (Qp 15) (Qe 1 false (Qh 14))),
(Qa (Qp 16) (Qd Leaf.b Go.BinOp.eql (Qh 11) (Qh 15)))]
def f67_c7 : MC := .reg false f67_r7
def f67_r8 : List MO := [
(Qa (Qp 17) (Qc (Qh 5))),
(Qa (Qp 4) (Qc (Qh 17)))]
def f67_c8 : MC := .reg false f67_r8
def f67_c9 : MC := MC.ret
def f67_c10 : MC := .seq f67_c8 f67_c9
def f67_c11 : MC := MC.skip
def f67_c12 : MC := .cond (Qh 16) f67_c10 f67_c11
def f67_c13 : MC := .seq f67_c7 f67_c12
def f67_c14 : MC := .seq f67_c6 f67_c13
def f67_c15 : MC := .blk 1 f67_c14
def f67_r16 : List MO := [
(Qa (Qp 18) (Qd Qn Go.BinOp.add (Qh 8) (Qi (Qj (Qk (Ql Qo 1)))))),
(Qa (Qp 8) (Qc (Qh 18)))]
def f67_c16 : MC := .reg false f67_r16
def f67_c17 : MC := .seq f67_c15 f67_c16
def f67_c18 : MC := .seq f67_c5 f67_c17
def f67_c19 : MC := .seq f67_c2 f67_c18
def f67_c20 : MC := .loop f67_c19
def f67_c21 : MC := .blk 0 f67_c20
def f67_c22 : MC := .seq f67_c1 f67_c21
def f67_r23 : List MO := [
(Qa (Qp 4) (Qc (Qi (Qj (Qk (Ql Qo (-1)))))))]
def f67_c23 : MC := .reg false f67_r23
def f67_c24 : MC := MC.ret
def f67_c25 : MC := .seq f67_c23 f67_c24
def f67_c26 : MC := .seq f67_c22 f67_c25
def f67_c27 : MC := .seq f67_c0 f67_c26
noncomputable def f67_code : Code := (Go.Proofs.Tryd.f67.body).getD .skip
theorem f67_body : Go.Proofs.Tryd.f67.body = Qp f67_code := by kernel_rfl
theorem f67_tr : trC Go.Proofs.Tryd.prog [] f67_code = Qp f67_c27 := by kernel_rfl
theorem f67_rs : rsOf Go.Proofs.Tryd.prog Go.Proofs.Tryd.f67.results.toList = Qp [(RV.t 4)] := by kernel_rfl
theorem f67_nt : Go.Proofs.Tryd.f67.ntmps = 19 := by kernel_rfl
theorem f67_ok : callable Go.Proofs.Tryd.prog 67 = true := by kernel_rfl
theorem f67_in {gp : Heap} {args : List V} {res : V} (h : G ⟨Go.Proofs.Tryd.prog, gp, 0, [(RV.t 4)], fun r c => r = res ∧ c = [], false⟩ [.code f67_c27, .fin] ⟨args ++ List.replicate (19 - args.length) .un, []⟩) : Does Go.Proofs.Tryd.prog gp 67 args res :=
  does_intro f67_ok Go.Proofs.Tryd.func67 f67_body f67_tr f67_rs (by rw [f67_nt]; exact h)
theorem f67_tri {gp : Heap} {args : List V} {pre : List Ch} {R : V → List Ch → Prop} (h : G ⟨Go.Proofs.Tryd.prog, gp, pre.length, [(RV.t 4)], R, false⟩ [.code f67_c27, .fin] ⟨args ++ List.replicate (19 - args.length) .un, pre⟩) : Tri Go.Proofs.Tryd.prog gp 67 args pre R :=
  tri_intro Go.Proofs.Tryd.func67 f67_body f67_tr f67_rs (by rw [f67_nt]; exact h)

/-! slices.IndexFunc[[]int,int] -/
def f69_r0 : List MO := [
(Qa (Qp 4) (Qc (Qi (Qj (Qk (Ql Qo 0))))))]
def f69_c0 : MC := .reg false f69_r0
def f69_r1 : List MO := [
(Qa (Qp 6) (Qc (Qh 0))),
(Qa (Qp 7) (MOp.len Qn (Qh 6))),
(Qa (Qp 8) (Qc (Qi (Qj (Qk (Ql Qo 0))))))]
def f69_c1 : MC := .reg false f69_r1
def f69_r2 : List MO := [
(Qa (Qp 9) (Qd Qn Go.BinOp.lss (Qh 8) (Qh 7)))]
def f69_c2 : MC := .reg false f69_r2
def f69_c3 : MC := MC.skip
def f69_c4 : MC := (MC.exit 0)
def f69_c5 : MC := .cond (Qh 9) f69_c3 f69_c4
def f69_r6 : List MO := [
(Qa (Qp 10) (Qc (Qh 8))),
(Qa (Qp 5) (Qc (Qh 10)))]
def f69_c6 : MC := .reg false f69_r6
def f69_r7 : List MO := [
(Qa (Qp 11) (Qc (Qh 1))),
(Qa (Qp 12) (Qc (Qh 0))),
(Qa (Qp 13) (Qc (Qh 5))),
(Qa (Qp 14) (MOp.iad 1 (Qh 12) (Qh 13))),
(Qa (Qp 15) (Qe 1 false (Qh 14))),
(Qa (Qp 16) (MOp.callv (Qh 11) [(Qh 15)]))]
def f69_c7 : MC := .reg false f69_r7
def f69_r8 : List MO := [
(Qa (Qp 17) (Qc (Qh 5))),
(Qa (Qp 4) (Qc (Qh 17)))]
def f69_c8 : MC := .reg false f69_r8
def f69_c9 : MC := MC.ret
def f69_c10 : MC := .seq f69_c8 f69_c9
def f69_c11 : MC := MC.skip
def f69_c12 : MC := .cond (Qh 16) f69_c10 f69_c11
def f69_c13 : MC := .seq f69_c7 f69_c12
def f69_c14 : MC := .seq f69_c6 f69_c13
def f69_c15 : MC := .blk 1 f69_c14
def f69_r16 : List MO := [
(Qa (Qp 18) (Qd Qn Go.BinOp.add (Qh 8) (Qi (Qj (Qk (Ql Qo 1)))))),
(Qa (Qp 8) (Qc (Qh 18)))]
def f69_c16 : MC := .reg false f69_r16
def f69_c17 : MC := .seq f69_c15 f69_c16
def f69_c18 : MC := .seq f69_c5 f69_c17
def f69_c19 : MC := .seq f69_c2 f69_c18
def f69_c20 : MC := .loop f69_c19
def f69_c21 : MC := .blk 0 f69_c20
def f69_c22 : MC := .seq f69_c1 f69_c21
def f69_r23 : List MO := [
(Qa (Qp 4) (Qc (Qi (Qj (Qk (Ql Qo (-1)))))))]
def f69_c23 : MC := .reg false f69_r23
def f69_c24 : MC := MC.ret
def f69_c25 : MC := .seq f69_c23 f69_c24
def f69_c26 : MC := .seq f69_c22 f69_c25
def f69_c27 : MC := .seq f69_c0 f69_c26
noncomputable def f69_code : Code := (Go.Proofs.Tryd.f69.body).getD .skip
theorem f69_body : Go.Proofs.Tryd.f69.body = Qp f69_code := by kernel_rfl
theorem f69_tr : trC Go.Proofs.Tryd.prog [] f69_code = Qp f69_c27 := by kernel_rfl
theorem f69_rs : rsOf Go.Proofs.Tryd.prog Go.Proofs.Tryd.f69.results.toList = Qp [(RV.t 4)] := by kernel_rfl
theorem f69_nt : Go.Proofs.Tryd.f69.ntmps = 19 := by kernel_rfl
theorem f69_ok : callable Go.Proofs.Tryd.prog 69 = true := by kernel_rfl
theorem f69_in {gp : Heap} {args : List V} {res : V} (h : G ⟨Go.Proofs.Tryd.prog, gp, 0, [(RV.t 4)], fun r c => r = res ∧ c = [], false⟩ [.code f69_c27, .fin] ⟨args ++ List.replicate (19 - args.length) .un, []⟩) : Does Go.Proofs.Tryd.prog gp 69 args res :=
  does_intro f69_ok Go.Proofs.Tryd.func69 f69_body f69_tr f69_rs (by rw [f69_nt]; exact h)
theorem f69_tri {gp : Heap} {args : List V} {pre : List Ch} {R : V → List Ch → Prop} (h : G ⟨Go.Proofs.Tryd.prog, gp, pre.length, [(RV.t 4)], R, false⟩ [.code f69_c27, .fin] ⟨args ++ List.replicate (19 - args.length) .un, pre⟩) : Tri Go.Proofs.Tryd.prog gp 69 args pre R :=
  tri_intro Go.Proofs.Tryd.func69 f69_body f69_tr f69_rs (by rw [f69_nt]; exact h)

/-! slices.IndexFunc[[]sigillary/api.Scalar,sigillary/api.Scalar] -/
def f70_r0 : List MO := [
(Qa (Qp 4) (Qc (Qi (Qj (Qk (Ql Qo 0))))))]
def f70_c0 : MC := .reg false f70_r0
def f70_r1 : List MO := [
(Qa (Qp 6) (Qc (Qh 0))),
(Qa (Qp 7) (MOp.len Qn (Qh 6))),
(Qa (Qp 8) (Qc (Qi (Qj (Qk (Ql Qo 0))))))]
def f70_c1 : MC := .reg false f70_r1
def f70_r2 : List MO := [
(Qa (Qp 9) (Qd Qn Go.BinOp.lss (Qh 8) (Qh 7)))]
def f70_c2 : MC := .reg false f70_r2
def f70_c3 : MC := MC.skip
def f70_c4 : MC := (MC.exit 0)
def f70_c5 : MC := .cond (Qh 9) f70_c3 f70_c4
def f70_r6 : List MO := [
(Qa (Qp 10) (Qc (Qh 8))),
(Qa (Qp 5) (Qc (Qh 10)))]
def f70_c6 : MC := .reg false f70_r6
def f70_r7 : List MO := [
(Qa (Qp 11) (Qc (Qh 1))),
(Qa (Qp 12) (Qc (Qh 0))),
(Qa (Qp 13) (Qc (Qh 5))),
(Qa (Qp 14) (MOp.iad 3 (Qh 12) (Qh 13))),
(Qa (Qp 15) (Qe 3 true (Qh 14))),
(Qa (Qp 16) (MOp.callv (Qh 11) [(Qh 15)]))]
def f70_c7 : MC := .reg false f70_r7
def f70_r8 : List MO := [
(Qa (Qp 17) (Qc (Qh 5))),
(Qa (Qp 4) (Qc (Qh 17)))]
def f70_c8 : MC := .reg false f70_r8
def f70_c9 : MC := MC.ret
def f70_c10 : MC := .seq f70_c8 f70_c9
def f70_c11 : MC := MC.skip
def f70_c12 : MC := .cond (Qh 16) f70_c10 f70_c11
def f70_c13 : MC := .seq f70_c7 f70_c12
def f70_c14 : MC := .seq f70_c6 f70_c13
def f70_c15 : MC := .blk 1 f70_c14
def f70_r16 : List MO := [
(Qa (Qp 18) (Qd Qn Go.BinOp.add (Qh 8) (Qi (Qj (Qk (Ql Qo 1)))))),
(Qa (Qp 8) (Qc (Qh 18)))]
def f70_c16 : MC := .reg false f70_r16
def f70_c17 : MC := .seq f70_c15 f70_c16
def f70_c18 : MC := .seq f70_c5 f70_c17
def f70_c19 : MC := .seq f70_c2 f70_c18
def f70_c20 : MC := .loop f70_c19
def f70_c21 : MC := .blk 0 f70_c20
def f70_c22 : MC := .seq f70_c1 f70_c21
def f70_r23 : List MO := [
(Qa (Qp 4) (Qc (Qi (Qj (Qk (Ql Qo (-1)))))))]
def f70_c23 : MC := .reg false f70_r23
def f70_c24 : MC := MC.ret
def f70_c25 : MC := .seq f70_c23 f70_c24
def f70_c26 : MC := .seq f70_c22 f70_c25
def f70_c27 : MC := .seq f70_c0 f70_c26
noncomputable def f70_code : Code := (Go.Proofs.Tryd.f70.body).getD .skip
theorem f70_body : Go.Proofs.Tryd.f70.body = Qp f70_code := by kernel_rfl
theorem f70_tr : trC Go.Proofs.Tryd.prog [] f70_code = Qp f70_c27 := by kernel_rfl
theorem f70_rs : rsOf Go.Proofs.Tryd.prog Go.Proofs.Tryd.f70.results.toList = Qp [(RV.t 4)] := by kernel_rfl
theorem f70_nt : Go.Proofs.Tryd.f70.ntmps = 19 := by kernel_rfl
theorem f70_ok : callable Go.Proofs.Tryd.prog 70 = true := by kernel_rfl
theorem f70_in {gp : Heap} {args : List V} {res : V} (h : G ⟨Go.Proofs.Tryd.prog, gp, 0, [(RV.t 4)], fun r c => r = res ∧ c = [], false⟩ [.code f70_c27, .fin] ⟨args ++ List.replicate (19 - args.length) .un, []⟩) : Does Go.Proofs.Tryd.prog gp 70 args res :=
  does_intro f70_ok Go.Proofs.Tryd.func70 f70_body f70_tr f70_rs (by rw [f70_nt]; exact h)
theorem f70_tri {gp : Heap} {args : List V} {pre : List Ch} {R : V → List Ch → Prop} (h : G ⟨Go.Proofs.Tryd.prog, gp, pre.length, [(RV.t 4)], R, false⟩ [.code f70_c27, .fin] ⟨args ++ List.replicate (19 - args.length) .un, pre⟩) : Tri Go.Proofs.Tryd.prog gp 70 args pre R :=
  tri_intro Go.Proofs.Tryd.func70 f70_body f70_tr f70_rs (by rw [f70_nt]; exact h)

/-! sigillary/scal.fresh -/
def f71_r0 : List MO := [
(Qa (Qp 1) (MOp.ibox (Qh 0))),
(Qa (Qp 2) (Qc (Qi (Qj (Qk D.nilF)))))]
def f71_c0 : MC := .reg false f71_r0
def f71_r1 : List MO := [
(Qa (Qp 3) (MOp.mkF (Go.Fn.func 74) [(Qh 1)])),
(Qa (Qp 2) (Qc (Qh 3)))]
def f71_c1 : MC := .reg false f71_r1
def f71_c2 : MC := MC.ret
def f71_c3 : MC := .seq f71_c1 f71_c2
def f71_c4 : MC := .seq f71_c0 f71_c3
noncomputable def f71_code : Code := (Go.Proofs.Tryd.f71.body).getD .skip
theorem f71_body : Go.Proofs.Tryd.f71.body = Qp f71_code := by kernel_rfl
theorem f71_tr : trC Go.Proofs.Tryd.prog [1] f71_code = Qp f71_c4 := by kernel_rfl
theorem f71_rs : rsOf Go.Proofs.Tryd.prog Go.Proofs.Tryd.f71.results.toList = Qp [(RV.t 2)] := by kernel_rfl
theorem f71_nt : Go.Proofs.Tryd.f71.ntmps = 4 := by kernel_rfl
theorem f71_ok : callable Go.Proofs.Tryd.prog 71 = true := by kernel_rfl
theorem f71_in {gp : Heap} {args : List V} {res : V} (h : G ⟨Go.Proofs.Tryd.prog, gp, 0, [(RV.t 2)], fun r c => r = res ∧ c = [], false⟩ [.code f71_c4, .fin] ⟨args ++ List.replicate (4 - args.length) .un, []⟩) : Does Go.Proofs.Tryd.prog gp 71 args res :=
  does_intro f71_ok Go.Proofs.Tryd.func71 f71_body f71_tr f71_rs (by rw [f71_nt]; exact h)
theorem f71_tri {gp : Heap} {args : List V} {pre : List Ch} {R : V → List Ch → Prop} (h : G ⟨Go.Proofs.Tryd.prog, gp, pre.length, [(RV.t 2)], R, false⟩ [.code f71_c4, .fin] ⟨args ++ List.replicate (4 - args.length) .un, pre⟩) : Tri Go.Proofs.Tryd.prog gp 71 args pre R :=
  tri_intro Go.Proofs.Tryd.func71 f71_body f71_tr f71_rs (by rw [f71_nt]; exact h)

/-! sigillary/scal.fresh$1 -/
def f74_r0 : List MO := [
(Qa (Qp 6) MOp.mkM),
(Qa (Qp 3) (Qc (Qh 6)))]
def f74_c0 : MC := .reg false f74_r0
def f74_c1 : MC := MC.skip
def f74_r2 : List MO := [
(Qa (Qp 7) (Qe 1 false (Qh 1))),
(Qa (Qp 8) (MOp.len Qn (Qh 7))),
(Qa (Qp 9) (Qc (Qi (Qj (Qk (Ql Qo 0))))))]
def f74_c2 : MC := .reg false f74_r2
def f74_r3 : List MO := [
(Qa (Qp 10) (Qd Qn Go.BinOp.lss (Qh 9) (Qh 8)))]
def f74_c3 : MC := .reg false f74_r3
def f74_c4 : MC := MC.skip
def f74_c5 : MC := (MC.exit 0)
def f74_c6 : MC := .cond (Qh 10) f74_c4 f74_c5
def f74_r7 : List MO := [
(Qa (Qp 11) (MOp.iad 3 (Qh 7) (Qh 9))),
(Qa (Qp 12) (Qe 3 true (Qh 11))),
(Qa (Qp 5) (MOp.alloc [(Ql Qo 0), (Ql Qo 0), (D.str (ByteArray.mk #[]))])),
(Qa none (MOp.store 3 (Qh 5) (Qh 12)))]
def f74_c7 : MC := .reg false f74_r7
def f74_r8 : List MO := [
(Qa (Qp 13) (Qc (Qh 3))),
(Qa (Qp 14) (Qe 3 true (Qh 5))),
(Qa (Qp 15) (MOp.lkp false (Qj (Qk (Qm false))) true [Qn, Qn, Leaf.s] (Qh 13) (Qh 14))),
(Qa (Qp 16) (Qc (Qh 15))),
(Qb 16 false (Qp 17)),
(Qa (Qp 17) (Qc (Qh 0))),
(Qb 16 false (Qp 18)),
(Qa (Qp 18) (Qe 3 true (Qh 5))),
(Qb 16 false (Qp 19)),
(Qa (Qp 19) (MOp.callv (Qh 17) [(Qh 18)])),
(Qb 16 false (Qp 20)),
(Qa (Qp 20) (MOp.not (Qh 19))),
(Qa (Qp 21) (MOp.pick (Qh 16) (Qi (Qj (Qk (Qm true)))) (Qh 20)))]
def f74_c8 : MC := .reg false f74_r8
def f74_c9 : MC := (MC.exit 0)
def f74_c10 : MC := MC.skip
def f74_c11 : MC := .cond (Qh 21) f74_c9 f74_c10
def f74_c12 : MC := .seq f74_c8 f74_c11
def f74_r13 : List MO := [
(Qa (Qp 22) (Qc (Qh 3))),
(Qa (Qp 23) (Qe 3 true (Qh 5))),
(Qa none (MOp.mupd true [Qn, Qn, Leaf.s] (Qh 22) (Qh 23) (Qi (Qj (Qk (Qm true))))))]
def f74_c13 : MC := .reg false f74_r13
def f74_c14 : MC := .seq f74_c12 f74_c13
def f74_c15 : MC := .seq f74_c7 f74_c14
def f74_c16 : MC := .blk 1 f74_c15
def f74_r17 : List MO := [
(Qa (Qp 24) (Qd Qn Go.BinOp.add (Qh 9) (Qi (Qj (Qk (Ql Qo 1)))))),
(Qa (Qp 9) (Qc (Qh 24)))]
def f74_c17 : MC := .reg false f74_r17
def f74_c18 : MC := .seq f74_c16 f74_c17
def f74_c19 : MC := .seq f74_c6 f74_c18
def f74_c20 : MC := .seq f74_c3 f74_c19
def f74_c21 : MC := .loop f74_c20
def f74_c22 : MC := .blk 0 f74_c21
def f74_c23 : MC := .seq f74_c2 f74_c22
def f74_c24 : MC := .seq f74_c1 f74_c23
def f74_c25 : MC := .seq f74_c0 f74_c24
def f74_c26 : MC := .scope f74_c25
noncomputable def f74_code : Code := (Go.Proofs.Tryd.f74.body).getD .skip
theorem f74_body : Go.Proofs.Tryd.f74.body = Qp f74_code := by kernel_rfl
theorem f74_tr : trC Go.Proofs.Tryd.prog [] f74_code = Qp f74_c26 := by kernel_rfl
theorem f74_rs : rsOf Go.Proofs.Tryd.prog Go.Proofs.Tryd.f74.results.toList = Qp [] := by kernel_rfl
theorem f74_nt : Go.Proofs.Tryd.f74.ntmps = 25 := by kernel_rfl
theorem f74_ok : callable Go.Proofs.Tryd.prog 74 = true := by kernel_rfl
theorem f74_in {gp : Heap} {args : List V} {res : V} (h : G ⟨Go.Proofs.Tryd.prog, gp, 0, [], fun r c => r = res ∧ c = [], false⟩ [.code f74_c26, .fin] ⟨args ++ List.replicate (25 - args.length) .un, []⟩) : Does Go.Proofs.Tryd.prog gp 74 args res :=
  does_intro f74_ok Go.Proofs.Tryd.func74 f74_body f74_tr f74_rs (by rw [f74_nt]; exact h)
theorem f74_tri {gp : Heap} {args : List V} {pre : List Ch} {R : V → List Ch → Prop} (h : G ⟨Go.Proofs.Tryd.prog, gp, pre.length, [], R, false⟩ [.code f74_c26, .fin] ⟨args ++ List.replicate (25 - args.length) .un, pre⟩) : Tri Go.Proofs.Tryd.prog gp 74 args pre R :=
  tri_intro Go.Proofs.Tryd.func74 f74_body f74_tr f74_rs (by rw [f74_nt]; exact h)

end Go.Fw.L07
