/- Small codes. -/
import Derived.Test.YtfonfncokpdaaaaDoorFd
import Derived.Test.YtfonfncokpdaaaaDoorProg
set_option linter.all false
namespace Go.Fw.L07
open Go Go.Fw
open Go.Fw.MO renaming op → Qa, chk → Qb, opx → Qc
open Go.Fw.MOp renaming mv → Qd, bin → Qe, load → Qf, fad → Qg, call → Qh, ext → Qi, iad → Qj, len → Qk, store → Ql, pick → Qm
open Go.Fw.Opd renaming t → Qn, c → Qo
open Go.Fw.V renaming one → Qp
open Go.Fw.A renaming d → Qq
open Go.Fw.D renaming int → Qr, bool → Qs
open Go.Fw.Leaf renaming i → Qt
open Go.IntKind renaming i64 → Qu
open Option renaming some → Qv
def f6_r0 : List MO := [
(Qa (Qv 3) (MOp.box (Qn 0))),
(Qa (Qv 4) (MOp.box (Qn 1))),
(Qa (Qv 6) (Qd (Qo (Qp (Qq (Qs false))))))]
def f6_c0 : MC := .reg false f6_r0
def f6_r1 : List MO := [
(Qa (Qv 16) (Qh 17 [])),
(Qa (Qv 7) (Qd (Qn 16)))]
def f6_c1 : MC := .reg false f6_r1
def f6_r2 : List MO := [
(Qa (Qv 17) (Qf 2 true (Qn 3))),
(Qa (Qv 18) (Qh 18 [(Qn 17), (Qo (Qp (Qq (Qr Qu 30))))])),
(Qa none (Ql 2 (Qn 3) (Qn 18)))]
def f6_c2 : MC := .reg false f6_r2
def f6_r3 : List MO := [
(Qa (Qv 19) (Qf 2 true (Qn 4))),
(Qa (Qv 20) (Qh 18 [(Qn 19), (Qo (Qp (Qq (Qr Qu 30))))])),
(Qa none (Ql 2 (Qn 4) (Qn 20)))]
def f6_c3 : MC := .reg false f6_r3
def f6_r4 : List MO := [
(Qa (Qv 21) (Qd (Qn 2))),
(Qa (Qv 22) (Qd (Qn 2))),
(Qa (Qv 23) (Qk Qt (Qn 22))),
(Qa (Qv 24) (MOp.min (Qn 23) (Qo (Qp (Qq (Qr Qu 30)))))),
(Qa (Qv 25) (MOp.slc 1 (Qn 21) none (Qv (Qn 24)))),
(Qa (Qv 2) (Qd (Qn 25)))]
def f6_c4 : MC := .reg false f6_r4
def f6_r5 : List MO := [
(Qa (Qv 27) (Qf 2 true (Qn 3))),
(Qa (Qv 28) (Qf 2 true (Qn 4))),
(Qa (Qv 29) (Qh 21 [(Qn 27), (Qn 28)])),
(Qa (Qv 26) (Qd (Qn 29))),
(Qa (Qv 30) (Qi (Qn 26) 0)),
(Qa (Qv 31) (Qi (Qn 26) 1)),
(Qa (Qv 8) (Qd (Qn 30))),
(Qa (Qv 9) (Qd (Qn 31)))]
def f6_c5 : MC := .reg false f6_r5
def f6_r6 : List MO := [
(Qa (Qv 33) (Qf 2 true (Qn 3))),
(Qa (Qv 34) (Qd (Qn 2))),
(Qa (Qv 35) (Qh 22 [(Qn 33), (Qn 34)])),
(Qa (Qv 32) (Qd (Qn 35))),
(Qa (Qv 36) (Qi (Qn 32) 0)),
(Qa (Qv 37) (Qi (Qn 32) 1)),
(Qa (Qv 10) (Qd (Qn 36))),
(Qa (Qv 11) (Qd (Qn 37)))]
def f6_c6 : MC := .reg false f6_r6
def f6_r7 : List MO := [
(Qa (Qv 39) (Qf 2 true (Qn 4))),
(Qa (Qv 40) (Qd (Qn 2))),
(Qa (Qv 41) (Qh 22 [(Qn 39), (Qn 40)])),
(Qa (Qv 38) (Qd (Qn 41))),
(Qa (Qv 42) (Qi (Qn 38) 0)),
(Qa (Qv 43) (Qi (Qn 38) 1)),
(Qa (Qv 12) (Qd (Qn 42))),
(Qa (Qv 13) (Qd (Qn 43)))]
def f6_c7 : MC := .reg false f6_r7
def f6_r8 : List MO := [
(Qa (Qv 44) (Qd (Qn 9))),
(Qa (Qv 45) (Qe Qt Go.BinOp.neq (Qn 44) (Qo (Qp (Qq (Qr Qu 0)))))),
(Qa (Qv 46) (Qd (Qn 45))),
(Qb 46 false (Qv 47)),
(Qa (Qv 47) (Qd (Qn 8))),
(Qb 46 false (Qv 48)),
(Qa (Qv 48) (MOp.not (Qn 47))),
(Qa (Qv 49) (Qm (Qn 46) (Qo (Qp (Qq (Qs true)))) (Qn 48))),
(Qa (Qv 50) (Qd (Qn 49))),
(Qb 50 false (Qv 51)),
(Qa (Qv 51) (Qd (Qn 11))),
(Qb 50 false (Qv 52)),
(Qa (Qv 52) (MOp.not (Qn 51))),
(Qa (Qv 53) (Qm (Qn 50) (Qo (Qp (Qq (Qs true)))) (Qn 52))),
(Qa (Qv 54) (Qd (Qn 53))),
(Qb 54 false (Qv 55)),
(Qa (Qv 55) (Qd (Qn 13))),
(Qb 54 false (Qv 56)),
(Qa (Qv 56) (MOp.not (Qn 55))),
(Qa (Qv 57) (Qm (Qn 54) (Qo (Qp (Qq (Qs true)))) (Qn 56)))]
def f6_c8 : MC := .reg false f6_r8
def f6_r9 : List MO := [
(Qa (Qv 58) (Qd (Qn 7))),
(Qa (Qv 59) (Qd (Qn 58))),
(Qb 59 true (Qv 60)),
(Qa (Qv 60) (Qd (Qn 9))),
(Qb 59 true (Qv 61)),
(Qa (Qv 61) (Qe Qt Go.BinOp.eql (Qn 60) (Qo (Qp (Qq (Qr Qu 0)))))),
(Qb 59 true (Qv 62)),
(Qa (Qv 62) (Qd (Qn 61))),
(Qb 62 false (Qv 63)),
(Qa (Qv 63) (Qd (Qn 8))),
(Qb 62 false (Qv 64)),
(Qa (Qv 64) (MOp.not (Qn 63))),
(Qb 59 true (Qv 65)),
(Qa (Qv 65) (Qm (Qn 62) (Qo (Qp (Qq (Qs true)))) (Qn 64))),
(Qa (Qv 66) (Qm (Qn 59) (Qn 65) (Qo (Qp (Qq (Qs false)))))),
(Qa (Qv 6) (Qd (Qn 66)))]
def f6_c9 : MC := .reg false f6_r9
def f6_c10 : MC := MC.ret
def f6_c11 : MC := .seq f6_c9 f6_c10
def f6_c12 : MC := MC.skip
def f6_c13 : MC := .cond (Qn 57) f6_c11 f6_c12
def f6_c14 : MC := .seq f6_c8 f6_c13
def f6_r15 : List MO := [
(Qa (Qv 68) (Qd (Qn 10))),
(Qa (Qv 69) (Qg 1 (Qn 3))),
(Qa (Qv 70) (Qf 1 false (Qn 69))),
(Qa (Qv 71) (MOp.build [(Qr Qu 0), (D.sl [])] [(0, (1, (Qn 68))), (1, (1, (Qn 70)))])),
(Qa (Qv 72) (Qd (Qn 12))),
(Qa (Qv 73) (Qg 1 (Qn 4))),
(Qa (Qv 74) (Qf 1 false (Qn 73))),
(Qa (Qv 75) (MOp.build [(Qr Qu 0), (D.sl [])] [(0, (1, (Qn 72))), (1, (1, (Qn 74)))])),
(Qa (Qv 76) (Qh 21 [(Qn 71), (Qn 75)])),
(Qa (Qv 67) (Qd (Qn 76))),
(Qa (Qv 77) (Qi (Qn 67) 0)),
(Qa (Qv 78) (Qi (Qn 67) 1)),
(Qa (Qv 14) (Qd (Qn 77))),
(Qa (Qv 15) (Qd (Qn 78)))]
def f6_c15 : MC := .reg false f6_r15
def f6_r16 : List MO := [
(Qa (Qv 79) (Qd (Qn 7))),
(Qa (Qv 80) (Qd (Qn 79))),
(Qb 80 true (Qv 81)),
(Qa (Qv 81) (Qd (Qn 14))),
(Qa (Qv 82) (Qm (Qn 80) (Qn 81) (Qo (Qp (Qq (Qs false)))))),
(Qa (Qv 83) (Qd (Qn 82))),
(Qb 83 true (Qv 84)),
(Qa (Qv 84) (Qd (Qn 15))),
(Qb 83 true (Qv 85)),
(Qa (Qv 85) (Qe Qt Go.BinOp.eql (Qn 84) (Qo (Qp (Qq (Qr Qu 0)))))),
(Qa (Qv 86) (Qm (Qn 83) (Qn 85) (Qo (Qp (Qq (Qs false)))))),
(Qa (Qv 6) (Qd (Qn 86)))]
def f6_c16 : MC := .reg false f6_r16
def f6_c17 : MC := MC.ret
def f6_c18 : MC := .seq f6_c16 f6_c17
def f6_c19 : MC := .seq f6_c15 f6_c18
def f6_c20 : MC := .seq f6_c14 f6_c19
def f6_c21 : MC := .seq f6_c7 f6_c20
def f6_c22 : MC := .seq f6_c6 f6_c21
def f6_c23 : MC := .seq f6_c5 f6_c22
def f6_c24 : MC := .seq f6_c4 f6_c23
def f6_c25 : MC := .seq f6_c3 f6_c24
def f6_c26 : MC := .seq f6_c2 f6_c25
def f6_c27 : MC := .seq f6_c1 f6_c26
def f6_c28 : MC := .seq f6_c0 f6_c27
noncomputable def f6_code : Code := (Go.Proofs.Tryd.f6.body).getD .skip
theorem f6_body : Go.Proofs.Tryd.f6.body = Qv f6_code := by kernel_rfl
theorem f6_tr : trC Go.Proofs.Tryd.prog [] f6_code = Qv f6_c28 := by kernel_rfl
theorem f6_rs : rsOf Go.Proofs.Tryd.prog Go.Proofs.Tryd.f6.results.toList = Qv [(RV.t 6)] := by kernel_rfl
theorem f6_nt : Go.Proofs.Tryd.f6.ntmps = 87 := by kernel_rfl
theorem f6_ok : callable Go.Proofs.Tryd.prog 6 = true := by kernel_rfl
theorem f6_in {gp : Heap} {args : List V} {res : V} (h : G ⟨Go.Proofs.Tryd.prog, gp, 0, [(RV.t 6)], fun r c => r = res ∧ c = [], false⟩ [.code f6_c28, .fin] ⟨args ++ List.replicate (87 - args.length) .un, []⟩) : Does Go.Proofs.Tryd.prog gp 6 args res :=
  does_intro f6_ok Go.Proofs.Tryd.func6 f6_body f6_tr f6_rs (by rw [f6_nt]; exact h)
theorem f6_tri {gp : Heap} {args : List V} {pre : List Ch} {R : V → List Ch → Prop} (h : G ⟨Go.Proofs.Tryd.prog, gp, pre.length, [(RV.t 6)], R, false⟩ [.code f6_c28, .fin] ⟨args ++ List.replicate (87 - args.length) .un, pre⟩) : Tri Go.Proofs.Tryd.prog gp 6 args pre R :=
  tri_intro Go.Proofs.Tryd.func6 f6_body f6_tr f6_rs (by rw [f6_nt]; exact h)
def f17_r0 : List MO := [
(Qa (Qv 0) (Qd (Qo (Qp (Qq (Qs false))))))]
def f17_c0 : MC := .reg false f17_r0
def f17_r1 : List MO := [
(Qa (Qv 13) (MOp.bslice 1 [(Qr Qu 0)] 1 [(0, (Qo (Qp (Qq (Qr Qu 0)))))])),
(Qa (Qv 14) (MOp.build [(Qr Qu 0), (Qr Qu 0), (Qr Qu 0), (D.str (ByteArray.mk #[])), (D.sl []), (D.sl [])] [(0, (1, (Qo (Qp (Qq (Qr Qu 1)))))), (5, (1, (Qn 13)))])),
(Qa (Qv 15) (MOp.bslice 6 [(Qr Qu 0), (Qr Qu 0), (Qr Qu 0), (D.str (ByteArray.mk #[])), (D.sl []), (D.sl [])] 1 [(0, (Qn 14))])),
(Qa (Qv 16) (MOp.build [(Qr Qu 0), (D.sl [])] [(1, (1, (Qn 15)))])),
(Qa (Qv 1) (MOp.alloc [(Qr Qu 0), (D.sl [])])),
(Qa none (Ql 2 (Qn 1) (Qn 16)))]
def f17_c1 : MC := .reg false f17_r1
def f17_r2 : List MO := [
(Qa (Qv 17) (MOp.bslice 1 [(Qr Qu 0)] 1 [(0, (Qo (Qp (Qq (Qr Qu 1)))))])),
(Qa (Qv 18) (MOp.build [(Qr Qu 0), (Qr Qu 0), (Qr Qu 0), (D.str (ByteArray.mk #[])), (D.sl []), (D.sl [])] [(0, (1, (Qo (Qp (Qq (Qr Qu 1)))))), (5, (1, (Qn 17)))])),
(Qa (Qv 19) (MOp.bslice 1 [(Qr Qu 0)] 1 [(0, (Qo (Qp (Qq (Qr Qu 0)))))])),
(Qa (Qv 20) (MOp.build [(Qr Qu 0), (Qr Qu 0), (Qr Qu 0), (D.str (ByteArray.mk #[])), (D.sl []), (D.sl [])] [(0, (1, (Qo (Qp (Qq (Qr Qu 1)))))), (5, (1, (Qn 19)))])),
(Qa (Qv 21) (MOp.bslice 6 [(Qr Qu 0), (Qr Qu 0), (Qr Qu 0), (D.str (ByteArray.mk #[])), (D.sl []), (D.sl [])] 2 [(0, (Qn 18)), (1, (Qn 20))])),
(Qa (Qv 22) (MOp.build [(Qr Qu 0), (D.sl [])] [(1, (1, (Qn 21)))])),
(Qa (Qv 2) (MOp.alloc [(Qr Qu 0), (D.sl [])])),
(Qa none (Ql 2 (Qn 2) (Qn 22)))]
def f17_c2 : MC := .reg false f17_r2
def f17_r3 : List MO := [
(Qa (Qv 24) (Qf 2 true (Qn 1))),
(Qa (Qv 25) (Qf 2 true (Qn 2))),
(Qa (Qv 26) (Qh 19 [(Qn 24), (Qn 25)])),
(Qa (Qv 23) (Qd (Qn 26))),
(Qa (Qv 27) (Qi (Qn 23) 0)),
(Qa (Qv 28) (Qi (Qn 23) 1)),
(Qa (Qv 29) (Qi (Qn 23) 2)),
(Qa (Qv 3) (Qd (Qn 27))),
(Qa (Qv 4) (Qd (Qn 28))),
(Qa (Qv 5) (Qd (Qn 29)))]
def f17_c3 : MC := .reg false f17_r3
def f17_r4 : List MO := [
(Qa (Qv 31) (Qf 2 true (Qn 1))),
(Qa (Qv 32) (Qf 2 true (Qn 2))),
(Qa (Qv 33) (Qh 21 [(Qn 31), (Qn 32)])),
(Qa (Qv 30) (Qd (Qn 33))),
(Qa (Qv 34) (Qi (Qn 30) 0)),
(Qa (Qv 35) (Qi (Qn 30) 1)),
(Qa (Qv 6) (Qd (Qn 34))),
(Qa (Qv 7) (Qd (Qn 35)))]
def f17_c4 : MC := .reg false f17_r4
def f17_r5 : List MO := [
(Qa (Qv 37) (Qf 2 true (Qn 2))),
(Qa (Qv 38) (Qg 1 (Qn 2))),
(Qa (Qv 39) (Qf 1 false (Qn 38))),
(Qa (Qv 40) (MOp.build [(Qr Qu 0), (D.sl [])] [(0, (1, (Qo (Qp (Qq (Qr Qu 1)))))), (1, (1, (Qn 39)))])),
(Qa (Qv 41) (Qh 21 [(Qn 37), (Qn 40)])),
(Qa (Qv 36) (Qd (Qn 41))),
(Qa (Qv 42) (Qi (Qn 36) 0)),
(Qa (Qv 43) (Qi (Qn 36) 1)),
(Qa (Qv 8) (Qd (Qn 42))),
(Qa (Qv 9) (Qd (Qn 43)))]
def f17_c5 : MC := .reg false f17_r5
def f17_r6 : List MO := [
(Qa (Qv 45) (Qf 2 true (Qn 1))),
(Qa (Qv 46) (MOp.build [(Qr Qu 0), (D.sl [])] [])),
(Qa (Qv 47) (Qh 19 [(Qn 45), (Qn 46)])),
(Qa (Qv 44) (Qd (Qn 47))),
(Qa (Qv 48) (Qi (Qn 44) 0)),
(Qa (Qv 49) (Qi (Qn 44) 1)),
(Qa (Qv 50) (Qi (Qn 44) 2)),
(Qa (Qv 10) (Qd (Qn 48))),
(Qa (Qv 11) (Qd (Qn 49))),
(Qa (Qv 12) (Qd (Qn 50)))]
def f17_c6 : MC := .reg false f17_r6
def f17_r7 : List MO := [
(Qa (Qv 51) (Qd (Qn 3))),
(Qa (Qv 52) (MOp.build [(Qr Qu 0), (Qr Qu 0)] [])),
(Qa (Qv 53) (MOp.build [(Qr Qu 0), (Qr Qu 0)] [(1, (1, (Qo (Qp (Qq (Qr Qu 1))))))])),
(Qa (Qv 54) (MOp.bslice 2 [(Qr Qu 0), (Qr Qu 0)] 2 [(0, (Qn 52)), (1, (Qn 53))])),
(Qa (Qv 55) (Qh 34 [(Qn 51), (Qn 54)])),
(Qa (Qv 56) (Qd (Qn 55))),
(Qb 56 true (Qv 57)),
(Qa (Qv 57) (Qd (Qn 4))),
(Qa (Qv 58) (Qm (Qn 56) (Qn 57) (Qo (Qp (Qq (Qs false)))))),
(Qa (Qv 59) (Qd (Qn 58))),
(Qb 59 true (Qv 60)),
(Qa (Qv 60) (Qd (Qn 5))),
(Qb 59 true (Qv 61)),
(Qa (Qv 61) (Qe Qt Go.BinOp.eql (Qn 60) (Qo (Qp (Qq (Qr Qu 0)))))),
(Qa (Qv 62) (Qm (Qn 59) (Qn 61) (Qo (Qp (Qq (Qs false)))))),
(Qa (Qv 63) (Qd (Qn 62))),
(Qb 63 true (Qv 64)),
(Qa (Qv 64) (Qd (Qn 6))),
(Qb 63 true (Qv 65)),
(Qa (Qv 65) (MOp.not (Qn 64))),
(Qa (Qv 66) (Qm (Qn 63) (Qn 65) (Qo (Qp (Qq (Qs false)))))),
(Qa (Qv 67) (Qd (Qn 66))),
(Qb 67 true (Qv 68)),
(Qa (Qv 68) (Qd (Qn 7))),
(Qb 67 true (Qv 69)),
(Qa (Qv 69) (Qe Qt Go.BinOp.eql (Qn 68) (Qo (Qp (Qq (Qr Qu 0)))))),
(Qa (Qv 70) (Qm (Qn 67) (Qn 69) (Qo (Qp (Qq (Qs false)))))),
(Qa (Qv 71) (Qd (Qn 70))),
(Qb 71 true (Qv 72)),
(Qa (Qv 72) (Qd (Qn 8))),
(Qa (Qv 73) (Qm (Qn 71) (Qn 72) (Qo (Qp (Qq (Qs false)))))),
(Qa (Qv 74) (Qd (Qn 73))),
(Qb 74 true (Qv 75)),
(Qa (Qv 75) (Qd (Qn 9))),
(Qb 74 true (Qv 76)),
(Qa (Qv 76) (Qe Qt Go.BinOp.eql (Qn 75) (Qo (Qp (Qq (Qr Qu 0)))))),
(Qa (Qv 77) (Qm (Qn 74) (Qn 76) (Qo (Qp (Qq (Qs false)))))),
(Qa (Qv 78) (Qd (Qn 77))),
(Qb 78 true (Qv 79)),
(Qa (Qv 79) (Qd (Qn 12))),
(Qb 78 true (Qv 80)),
(Qa (Qv 80) (Qe Qt Go.BinOp.eql (Qn 79) (Qo (Qp (Qq (Qr Qu 70)))))),
(Qa (Qv 81) (Qm (Qn 78) (Qn 80) (Qo (Qp (Qq (Qs false)))))),
(Qa (Qv 0) (Qd (Qn 81)))]
def f17_c7 : MC := .reg false f17_r7
def f17_c8 : MC := MC.ret
def f17_c9 : MC := .seq f17_c7 f17_c8
def f17_c10 : MC := .seq f17_c6 f17_c9
def f17_c11 : MC := .seq f17_c5 f17_c10
def f17_c12 : MC := .seq f17_c4 f17_c11
def f17_c13 : MC := .seq f17_c3 f17_c12
def f17_c14 : MC := .seq f17_c2 f17_c13
def f17_c15 : MC := .seq f17_c1 f17_c14
def f17_c16 : MC := .seq f17_c0 f17_c15
noncomputable def f17_code : Code := (Go.Proofs.Tryd.f17.body).getD .skip
theorem f17_body : Go.Proofs.Tryd.f17.body = Qv f17_code := by kernel_rfl
theorem f17_tr : trC Go.Proofs.Tryd.prog [] f17_code = Qv f17_c16 := by kernel_rfl
theorem f17_rs : rsOf Go.Proofs.Tryd.prog Go.Proofs.Tryd.f17.results.toList = Qv [(RV.t 0)] := by kernel_rfl
theorem f17_nt : Go.Proofs.Tryd.f17.ntmps = 82 := by kernel_rfl
theorem f17_ok : callable Go.Proofs.Tryd.prog 17 = true := by kernel_rfl
theorem f17_in {gp : Heap} {args : List V} {res : V} (h : G ⟨Go.Proofs.Tryd.prog, gp, 0, [(RV.t 0)], fun r c => r = res ∧ c = [], false⟩ [.code f17_c16, .fin] ⟨args ++ List.replicate (82 - args.length) .un, []⟩) : Does Go.Proofs.Tryd.prog gp 17 args res :=
  does_intro f17_ok Go.Proofs.Tryd.func17 f17_body f17_tr f17_rs (by rw [f17_nt]; exact h)
theorem f17_tri {gp : Heap} {args : List V} {pre : List Ch} {R : V → List Ch → Prop} (h : G ⟨Go.Proofs.Tryd.prog, gp, pre.length, [(RV.t 0)], R, false⟩ [.code f17_c16, .fin] ⟨args ++ List.replicate (82 - args.length) .un, pre⟩) : Tri Go.Proofs.Tryd.prog gp 17 args pre R :=
  tri_intro Go.Proofs.Tryd.func17 f17_body f17_tr f17_rs (by rw [f17_nt]; exact h)
def f18_r0 : List MO := [
(Qa (Qv 2) (MOp.ibox (Qn 0))),
(Qa (Qv 4) (MOp.alloc [(Qr Qu 0), (D.sl [])]))]
def f18_c0 : MC := .reg false f18_r0
def f18_r1 : List MO := [
(Qa (Qv 5) (Qg 1 (Qn 2))),
(Qa (Qv 6) (Qf 1 false (Qn 5))),
(Qa (Qv 7) (Qk Qt (Qn 6))),
(Qa (Qv 8) (Qd (Qn 1))),
(Qa (Qv 9) (Qe Qt Go.BinOp.gtr (Qn 7) (Qn 8)))]
def f18_c1 : MC := .reg false f18_r1
def f18_r2 : List MO := [
(Qa (Qv 10) (MOp.build [(Qr Qu 0), (D.sl [])] [(0, (1, (Qo (Qp (Qq (Qr Qu (-1)))))))])),
(Qa none (Ql 2 (Qn 4) (Qn 10)))]
def f18_c2 : MC := .reg false f18_r2
def f18_c3 : MC := MC.ret
def f18_c4 : MC := .seq f18_c2 f18_c3
def f18_c5 : MC := MC.skip
def f18_c6 : MC := .cond (Qn 9) f18_c4 f18_c5
def f18_c7 : MC := .seq f18_c1 f18_c6
def f18_r8 : List MO := [
(Qa (Qv 11) (Qf 2 true (Qn 2))),
(Qa (Qv 12) (Qh 9 [(Qn 11)])),
(Qa none (Ql 2 (Qn 4) (Qn 12)))]
def f18_c8 : MC := .reg false f18_r8
def f18_c9 : MC := MC.ret
def f18_c10 : MC := .seq f18_c8 f18_c9
def f18_c11 : MC := .seq f18_c7 f18_c10
def f18_c12 : MC := .seq f18_c0 f18_c11
noncomputable def f18_code : Code := (Go.Proofs.Tryd.f18.body).getD .skip
theorem f18_body : Go.Proofs.Tryd.f18.body = Qv f18_code := by kernel_rfl
theorem f18_tr : trC Go.Proofs.Tryd.prog [2] f18_code = Qv f18_c12 := by kernel_rfl
theorem f18_rs : rsOf Go.Proofs.Tryd.prog Go.Proofs.Tryd.f18.results.toList = Qv [(RV.cell 4 2 true)] := by kernel_rfl
theorem f18_nt : Go.Proofs.Tryd.f18.ntmps = 13 := by kernel_rfl
theorem f18_ok : callable Go.Proofs.Tryd.prog 18 = true := by kernel_rfl
theorem f18_in {gp : Heap} {args : List V} {res : V} (h : G ⟨Go.Proofs.Tryd.prog, gp, 0, [(RV.cell 4 2 true)], fun r c => r = res ∧ c = [], false⟩ [.code f18_c12, .fin] ⟨args ++ List.replicate (13 - args.length) .un, []⟩) : Does Go.Proofs.Tryd.prog gp 18 args res :=
  does_intro f18_ok Go.Proofs.Tryd.func18 f18_body f18_tr f18_rs (by rw [f18_nt]; exact h)
theorem f18_tri {gp : Heap} {args : List V} {pre : List Ch} {R : V → List Ch → Prop} (h : G ⟨Go.Proofs.Tryd.prog, gp, pre.length, [(RV.cell 4 2 true)], R, false⟩ [.code f18_c12, .fin] ⟨args ++ List.replicate (13 - args.length) .un, pre⟩) : Tri Go.Proofs.Tryd.prog gp 18 args pre R :=
  tri_intro Go.Proofs.Tryd.func18 f18_body f18_tr f18_rs (by rw [f18_nt]; exact h)
def f19_r0 : List MO := [
(Qa (Qv 2) (MOp.ibox (Qn 0))),
(Qa (Qv 3) (MOp.ibox (Qn 1))),
(Qa (Qv 4) (Qd (Qo (Qp A.nil)))),
(Qa (Qv 5) (Qd (Qo (Qp (Qq (Qs false)))))),
(Qa (Qv 6) (Qd (Qo (Qp (Qq (Qr Qu 0))))))]
def f19_c0 : MC := .reg false f19_r0
def f19_r1 : List MO := [
(Qa (Qv 13) (Qf 2 true (Qn 2))),
(Qa (Qv 14) (Qf 2 true (Qn 3))),
(Qa (Qv 15) (MOp.bslice 2 [(Qr Qu 0), (D.sl [])] 2 [(0, (Qn 13)), (1, (Qn 14))])),
(Qa (Qv 16) (Qh 35 [(Qn 15)])),
(Qa (Qv 7) (Qd (Qn 16)))]
def f19_c1 : MC := .reg false f19_r1
def f19_r2 : List MO := [
(Qa (Qv 17) (Qd (Qn 7))),
(Qa (Qv 18) (Qe Qt Go.BinOp.neq (Qn 17) (Qo (Qp (Qq (Qr Qu 0))))))]
def f19_c2 : MC := .reg false f19_r2
def f19_r3 : List MO := [
(Qa (Qv 19) (Qd (Qn 7))),
(Qa (Qv 4) (Qd (Qo (Qp A.nil)))),
(Qa (Qv 5) (Qd (Qo (Qp (Qq (Qs false)))))),
(Qa (Qv 6) (Qd (Qn 19)))]
def f19_c3 : MC := .reg false f19_r3
def f19_c4 : MC := MC.ret
def f19_c5 : MC := .seq f19_c3 f19_c4
def f19_c6 : MC := MC.skip
def f19_c7 : MC := .cond (Qn 18) f19_c5 f19_c6
def f19_c8 : MC := .seq f19_c2 f19_c7
def f19_c9 : MC := .seq f19_c1 f19_c8
def f19_r10 : List MO := [
(Qa (Qv 8) (MOp.alloc [(D.sl [])]))]
def f19_c10 : MC := .reg false f19_r10
def f19_r11 : List MO := [
(Qa (Qv 9) (MOp.alloc [D.nilI]))]
def f19_c11 : MC := .reg false f19_r11
def f19_r12 : List MO := [
(Qa (Qv 20) (Qf 2 true (Qn 2))),
(Qa (Qv 21) (Qf 2 true (Qn 3))),
(Qa (Qv 22) (MOp.build [(Qr Qu 0), (D.sl []), (Qr Qu 0), (D.sl [])] [(0, (2, (Qn 20))), (2, (2, (Qn 21)))])),
(Qa (Qv 23) MOp.mkM),
(Qa (Qv 24) (Qg 0 (Qn 2))),
(Qa (Qv 25) (Qf 1 false (Qn 24))),
(Qa (Qv 26) (Qg 0 (Qn 3))),
(Qa (Qv 27) (Qf 1 false (Qn 26))),
(Qa (Qv 28) (MOp.build [(Qr Qu 0), (Qr Qu 0)] [(0, (1, (Qn 25))), (1, (1, (Qn 27)))])),
(Qa (Qv 29) (MOp.bslO 2 [(Qr Qu 0), (Qr Qu 0)] 1 [(0, (Qn 28))])),
(Qa (Qv 30) (MOp.build [(Qr Qu 0), (D.sl []), (Qr Qu 0), (D.sl []), (D.raw (Go.Value.map none)), (D.sl [])] [(0, (4, (Qn 22))), (4, (1, (Qn 23))), (5, (1, (Qn 29)))])),
(Qa (Qv 31) (MOp.box (Qn 30))),
(Qa (Qv 10) (Qd (Qn 31)))]
def f19_c12 : MC := .reg false f19_r12
def f19_r13 : List MO := [
(Qa (Qv 32) (Qd (Qn 10))),
(Qa (Qv 33) (Qh 36 [(Qn 32)]))]
def f19_c13 : MC := .reg false f19_r13
def f19_r14 : List MO := [
(Qa (Qv 11) (MOp.alloc [(Qr Qu 0), (Qr Qu 0)])),
(Qa none (Ql 2 (Qn 11) (Qn 34)))]
def f19_c14 : MC := .reg false f19_r14
def f19_r15 : List MO := [
(Qa (Qv 12) (Qd (Qn 35)))]
def f19_c15 : MC := .reg false f19_r15
def f19_c16 : MC := .seq f19_c14 f19_c15
def f19_r17 : List MO := [
(Qa (Qv 36) (Qf 1 false (Qn 8))),
(Qa (Qv 37) (Qf 2 true (Qn 11))),
(Qa (Qv 38) (MOp.bslice 2 [(Qr Qu 0), (Qr Qu 0)] 1 [(0, (Qn 37))])),
(Qa (Qv 39) (MOp.app 2 16 (Qn 36) (Qn 38))),
(Qa (Qv 40) (Qd (Qn 12))),
(Qa none (Ql 1 (Qn 8) (Qn 39))),
(Qa none (Ql 1 (Qn 9) (Qn 40)))]
def f19_c17 : MC := .reg false f19_r17
def f19_c18 : MC := .blk 1 f19_c17
def f19_c19 : MC := .rf (Qn 33) [34, 35] f19_c16 f19_c18
def f19_c20 : MC := .blk 0 f19_c19
def f19_c21 : MC := .seq f19_c13 f19_c20
def f19_r22 : List MO := [
(Qa (Qv 41) (Qf 1 false (Qn 8))),
(Qa (Qv 42) (Qf 1 false (Qn 9))),
(Qa (Qv 43) (MOp.nilq NK.ifc false (Qn 42))),
(Qa (Qv 4) (Qd (Qn 41))),
(Qa (Qv 5) (Qd (Qn 43))),
(Qa (Qv 6) (Qd (Qo (Qp (Qq (Qr Qu 0))))))]
def f19_c22 : MC := .reg true f19_r22
def f19_c23 : MC := MC.ret
def f19_c24 : MC := .seq f19_c22 f19_c23
def f19_c25 : MC := .seq f19_c21 f19_c24
def f19_c26 : MC := .seq f19_c12 f19_c25
def f19_c27 : MC := .seq f19_c11 f19_c26
def f19_c28 : MC := .seq f19_c10 f19_c27
def f19_c29 : MC := .seq f19_c9 f19_c28
def f19_c30 : MC := .seq f19_c0 f19_c29
noncomputable def f19_code : Code := (Go.Proofs.Tryd.f19.body).getD .skip
theorem f19_body : Go.Proofs.Tryd.f19.body = Qv f19_code := by kernel_rfl
theorem f19_tr : trC Go.Proofs.Tryd.prog [2, 3, 29] f19_code = Qv f19_c30 := by kernel_rfl
theorem f19_rs : rsOf Go.Proofs.Tryd.prog Go.Proofs.Tryd.f19.results.toList = Qv [(RV.t 4), (RV.t 5), (RV.t 6)] := by kernel_rfl
theorem f19_nt : Go.Proofs.Tryd.f19.ntmps = 44 := by kernel_rfl
theorem f19_ok : callable Go.Proofs.Tryd.prog 19 = true := by kernel_rfl
theorem f19_in {gp : Heap} {args : List V} {res : V} (h : G ⟨Go.Proofs.Tryd.prog, gp, 0, [(RV.t 4), (RV.t 5), (RV.t 6)], fun r c => r = res ∧ c = [], false⟩ [.code f19_c30, .fin] ⟨args ++ List.replicate (44 - args.length) .un, []⟩) : Does Go.Proofs.Tryd.prog gp 19 args res :=
  does_intro f19_ok Go.Proofs.Tryd.func19 f19_body f19_tr f19_rs (by rw [f19_nt]; exact h)
theorem f19_tri {gp : Heap} {args : List V} {pre : List Ch} {R : V → List Ch → Prop} (h : G ⟨Go.Proofs.Tryd.prog, gp, pre.length, [(RV.t 4), (RV.t 5), (RV.t 6)], R, false⟩ [.code f19_c30, .fin] ⟨args ++ List.replicate (44 - args.length) .un, pre⟩) : Tri Go.Proofs.Tryd.prog gp 19 args pre R :=
  tri_intro Go.Proofs.Tryd.func19 f19_body f19_tr f19_rs (by rw [f19_nt]; exact h)
def f21_r0 : List MO := [
(Qa (Qv 2) (MOp.ibox (Qn 0))),
(Qa (Qv 3) (MOp.ibox (Qn 1))),
(Qa (Qv 4) (Qd (Qo (Qp (Qq (Qs false)))))),
(Qa (Qv 5) (Qd (Qo (Qp (Qq (Qr Qu 0))))))]
def f21_c0 : MC := .reg false f21_r0
def f21_r1 : List MO := [
(Qa (Qv 16) (Qf 2 true (Qn 2))),
(Qa (Qv 17) (Qf 2 true (Qn 3))),
(Qa (Qv 18) (Qh 19 [(Qn 16), (Qn 17)])),
(Qa (Qv 15) (Qd (Qn 18))),
(Qa (Qv 19) (Qi (Qn 15) 0)),
(Qa (Qv 20) (Qi (Qn 15) 1)),
(Qa (Qv 21) (Qi (Qn 15) 2)),
(Qa (Qv 6) (Qd (Qn 19))),
(Qa (Qv 7) (Qd (Qn 20))),
(Qa (Qv 8) (Qd (Qn 21)))]
def f21_c1 : MC := .reg false f21_r1
def f21_r2 : List MO := [
(Qa (Qv 22) MOp.mkM),
(Qa (Qv 23) (MOp.build [(D.raw (Go.Value.map none))] [(0, (1, (Qn 22)))])),
(Qa (Qv 24) (MOp.mkMv (Go.Fn.func 38) (Qn 23))),
(Qa (Qv 25) MOp.mkM),
(Qa (Qv 26) (MOp.build [(D.raw (Go.Value.map none))] [(0, (1, (Qn 25)))])),
(Qa (Qv 27) (MOp.mkMv (Go.Fn.func 38) (Qn 26))),
(Qa (Qv 9) (Qd (Qn 24))),
(Qa (Qv 10) (Qd (Qn 27)))]
def f21_c2 : MC := .reg false f21_r2
def f21_r3 : List MO := [
(Qa (Qv 28) (Qd (Qn 6))),
(Qa (Qv 29) (Qk Qt (Qn 28))),
(Qa (Qv 30) (Qd (Qo (Qp (Qq (Qr Qu 0))))))]
def f21_c3 : MC := .reg false f21_r3
def f21_r4 : List MO := [
(Qa (Qv 31) (Qe Qt Go.BinOp.lss (Qn 30) (Qn 29)))]
def f21_c4 : MC := .reg false f21_r4
def f21_c5 : MC := MC.skip
def f21_c6 : MC := (MC.exit 0)
def f21_c7 : MC := .cond (Qn 31) f21_c5 f21_c6
def f21_r8 : List MO := [
(Qa (Qv 32) (Qj 2 (Qn 28) (Qn 30))),
(Qa (Qv 33) (Qf 2 true (Qn 32))),
(Qa (Qv 12) (MOp.alloc [(Qr Qu 0), (Qr Qu 0)])),
(Qa none (Ql 2 (Qn 12) (Qn 33)))]
def f21_c8 : MC := .reg false f21_r8
def f21_r9 : List MO := [
(Qa (Qv 34) (Qd (Qn 9))),
(Qa (Qv 35) (Qg 0 (Qn 12))),
(Qa (Qv 36) (MOp.ild 1 false (Qn 35))),
(Qa (Qv 37) (Qg 1 (Qn 12))),
(Qa (Qv 38) (MOp.ild 1 false (Qn 37))),
(Qc (Qv 39) (MOp.callv (Qn 34) [(Qn 36), (Qn 38)])),
(Qa (Qv 40) (Qd (Qn 10))),
(Qa (Qv 41) (Qg 1 (Qn 12))),
(Qa (Qv 42) (MOp.ild 1 false (Qn 41))),
(Qa (Qv 43) (Qg 0 (Qn 12))),
(Qa (Qv 44) (MOp.ild 1 false (Qn 43))),
(Qc (Qv 45) (MOp.callv (Qn 40) [(Qn 42), (Qn 44)])),
(Qa (Qv 13) (Qd (Qn 39))),
(Qa (Qv 14) (Qd (Qn 45)))]
def f21_c9 : MC := .reg true f21_r9
def f21_r10 : List MO := [
(Qa (Qv 46) (Qd (Qn 7))),
(Qa (Qv 47) (Qd (Qn 46))),
(Qb 47 true (Qv 48)),
(Qa (Qv 48) (Qd (Qn 13))),
(Qa (Qv 49) (Qm (Qn 47) (Qn 48) (Qo (Qp (Qq (Qs false)))))),
(Qa (Qv 50) (Qd (Qn 49))),
(Qb 50 true (Qv 51)),
(Qa (Qv 51) (Qd (Qn 14))),
(Qa (Qv 52) (Qm (Qn 50) (Qn 51) (Qo (Qp (Qq (Qs false)))))),
(Qa (Qv 7) (Qd (Qn 52)))]
def f21_c10 : MC := .reg false f21_r10
def f21_c11 : MC := .seq f21_c9 f21_c10
def f21_c12 : MC := .seq f21_c8 f21_c11
def f21_c13 : MC := .blk 1 f21_c12
def f21_r14 : List MO := [
(Qa (Qv 53) (Qe Qt Go.BinOp.add (Qn 30) (Qo (Qp (Qq (Qr Qu 1)))))),
(Qa (Qv 30) (Qd (Qn 53)))]
def f21_c14 : MC := .reg false f21_r14
def f21_c15 : MC := .seq f21_c13 f21_c14
def f21_c16 : MC := .seq f21_c7 f21_c15
def f21_c17 : MC := .seq f21_c4 f21_c16
def f21_c18 : MC := .loop f21_c17
def f21_c19 : MC := .blk 0 f21_c18
def f21_c20 : MC := .seq f21_c3 f21_c19
def f21_r21 : List MO := [
(Qa (Qv 54) (Qd (Qn 7))),
(Qa (Qv 55) (Qd (Qn 8))),
(Qa (Qv 4) (Qd (Qn 54))),
(Qa (Qv 5) (Qd (Qn 55)))]
def f21_c21 : MC := .reg false f21_r21
def f21_c22 : MC := MC.ret
def f21_c23 : MC := .seq f21_c21 f21_c22
def f21_c24 : MC := .seq f21_c20 f21_c23
def f21_c25 : MC := .seq f21_c2 f21_c24
def f21_c26 : MC := .seq f21_c1 f21_c25
def f21_c27 : MC := .seq f21_c0 f21_c26
noncomputable def f21_code : Code := (Go.Proofs.Tryd.f21.body).getD .skip
theorem f21_body : Go.Proofs.Tryd.f21.body = Qv f21_code := by kernel_rfl
theorem f21_tr : trC Go.Proofs.Tryd.prog [2, 3, 1012] f21_code = Qv f21_c27 := by kernel_rfl
theorem f21_rs : rsOf Go.Proofs.Tryd.prog Go.Proofs.Tryd.f21.results.toList = Qv [(RV.t 4), (RV.t 5)] := by kernel_rfl
theorem f21_nt : Go.Proofs.Tryd.f21.ntmps = 56 := by kernel_rfl
theorem f21_ok : callable Go.Proofs.Tryd.prog 21 = true := by kernel_rfl
theorem f21_in {gp : Heap} {args : List V} {res : V} (h : G ⟨Go.Proofs.Tryd.prog, gp, 0, [(RV.t 4), (RV.t 5)], fun r c => r = res ∧ c = [], false⟩ [.code f21_c27, .fin] ⟨args ++ List.replicate (56 - args.length) .un, []⟩) : Does Go.Proofs.Tryd.prog gp 21 args res :=
  does_intro f21_ok Go.Proofs.Tryd.func21 f21_body f21_tr f21_rs (by rw [f21_nt]; exact h)
theorem f21_tri {gp : Heap} {args : List V} {pre : List Ch} {R : V → List Ch → Prop} (h : G ⟨Go.Proofs.Tryd.prog, gp, pre.length, [(RV.t 4), (RV.t 5)], R, false⟩ [.code f21_c27, .fin] ⟨args ++ List.replicate (56 - args.length) .un, pre⟩) : Tri Go.Proofs.Tryd.prog gp 21 args pre R :=
  tri_intro Go.Proofs.Tryd.func21 f21_body f21_tr f21_rs (by rw [f21_nt]; exact h)
def f34_r0 : List MO := [
(Qa (Qv 4) (Qd (Qo (Qp (Qq (Qs false))))))]
def f34_c0 : MC := .reg false f34_r0
def f34_r1 : List MO := [
(Qa (Qv 6) (Qd (Qn 0))),
(Qa (Qv 7) (Qk Qt (Qn 6))),
(Qa (Qv 8) (Qd (Qn 1))),
(Qa (Qv 9) (Qk Qt (Qn 8))),
(Qa (Qv 10) (Qe Qt Go.BinOp.neq (Qn 7) (Qn 9)))]
def f34_c1 : MC := .reg false f34_r1
def f34_r2 : List MO := [
(Qa (Qv 4) (Qd (Qo (Qp (Qq (Qs false))))))]
def f34_c2 : MC := .reg false f34_r2
def f34_c3 : MC := MC.ret
def f34_c4 : MC := .seq f34_c2 f34_c3
def f34_c5 : MC := MC.skip
def f34_c6 : MC := .cond (Qn 10) f34_c4 f34_c5
def f34_c7 : MC := .seq f34_c1 f34_c6
def f34_r8 : List MO := [
(Qa (Qv 5) (Qd (Qo (Qp (Qq (Qr Qu 0))))))]
def f34_c8 : MC := .reg false f34_r8
def f34_r9 : List MO := [
(Qa (Qv 11) (Qd (Qn 5))),
(Qa (Qv 12) (Qd (Qn 0))),
(Qa (Qv 13) (Qk Qt (Qn 12))),
(Qa (Qv 14) (Qe Qt Go.BinOp.lss (Qn 11) (Qn 13)))]
def f34_c9 : MC := .reg false f34_r9
def f34_c10 : MC := MC.skip
def f34_c11 : MC := (MC.exit 0)
def f34_c12 : MC := .cond (Qn 14) f34_c10 f34_c11
def f34_c13 : MC := .seq f34_c9 f34_c12
def f34_r14 : List MO := [
(Qa (Qv 17) (Qd (Qn 0))),
(Qa (Qv 18) (Qd (Qn 5))),
(Qa (Qv 19) (Qj 2 (Qn 17) (Qn 18))),
(Qa (Qv 20) (Qf 2 true (Qn 19))),
(Qa (Qv 21) (Qd (Qn 1))),
(Qa (Qv 22) (Qd (Qn 5))),
(Qa (Qv 23) (Qj 2 (Qn 21) (Qn 22))),
(Qa (Qv 24) (Qf 2 true (Qn 23))),
(Qa (Qv 25) (MOp.eqs true [Qt, Qt] (Qn 20) (Qn 24)))]
def f34_c14 : MC := .reg true f34_r14
def f34_r15 : List MO := [
(Qa (Qv 4) (Qd (Qo (Qp (Qq (Qs false))))))]
def f34_c15 : MC := .reg false f34_r15
def f34_c16 : MC := MC.ret
def f34_c17 : MC := .seq f34_c15 f34_c16
def f34_c18 : MC := MC.skip
def f34_c19 : MC := .cond (Qn 25) f34_c17 f34_c18
def f34_c20 : MC := .seq f34_c14 f34_c19
def f34_c21 : MC := .blk 1 f34_c20
def f34_r22 : List MO := [
(Qa (Qv 15) (Qd (Qn 5))),
(Qa (Qv 16) (Qe Qt Go.BinOp.add (Qn 15) (Qo (Qp (Qq (Qr Qu 1)))))),
(Qa (Qv 5) (Qd (Qn 16)))]
def f34_c22 : MC := .reg false f34_r22
def f34_c23 : MC := .seq f34_c21 f34_c22
def f34_c24 : MC := .seq f34_c13 f34_c23
def f34_c25 : MC := .loop f34_c24
def f34_c26 : MC := .blk 0 f34_c25
def f34_c27 : MC := .seq f34_c8 f34_c26
def f34_r28 : List MO := [
(Qa (Qv 4) (Qd (Qo (Qp (Qq (Qs true))))))]
def f34_c28 : MC := .reg false f34_r28
def f34_c29 : MC := MC.ret
def f34_c30 : MC := .seq f34_c28 f34_c29
def f34_c31 : MC := .seq f34_c27 f34_c30
def f34_c32 : MC := .seq f34_c7 f34_c31
def f34_c33 : MC := .seq f34_c0 f34_c32
noncomputable def f34_code : Code := (Go.Proofs.Tryd.f34.body).getD .skip
theorem f34_body : Go.Proofs.Tryd.f34.body = Qv f34_code := by kernel_rfl
theorem f34_tr : trC Go.Proofs.Tryd.prog [] f34_code = Qv f34_c33 := by kernel_rfl
theorem f34_rs : rsOf Go.Proofs.Tryd.prog Go.Proofs.Tryd.f34.results.toList = Qv [(RV.t 4)] := by kernel_rfl
theorem f34_nt : Go.Proofs.Tryd.f34.ntmps = 26 := by kernel_rfl
theorem f34_ok : callable Go.Proofs.Tryd.prog 34 = true := by kernel_rfl
theorem f34_in {gp : Heap} {args : List V} {res : V} (h : G ⟨Go.Proofs.Tryd.prog, gp, 0, [(RV.t 4)], fun r c => r = res ∧ c = [], false⟩ [.code f34_c33, .fin] ⟨args ++ List.replicate (26 - args.length) .un, []⟩) : Does Go.Proofs.Tryd.prog gp 34 args res :=
  does_intro f34_ok Go.Proofs.Tryd.func34 f34_body f34_tr f34_rs (by rw [f34_nt]; exact h)
theorem f34_tri {gp : Heap} {args : List V} {pre : List Ch} {R : V → List Ch → Prop} (h : G ⟨Go.Proofs.Tryd.prog, gp, pre.length, [(RV.t 4)], R, false⟩ [.code f34_c33, .fin] ⟨args ++ List.replicate (26 - args.length) .un, pre⟩) : Tri Go.Proofs.Tryd.prog gp 34 args pre R :=
  tri_intro Go.Proofs.Tryd.func34 f34_body f34_tr f34_rs (by rw [f34_nt]; exact h)
def f35_r0 : List MO := [
(Qa (Qv 2) (Qd (Qo (Qp (Qq (Qr Qu 0))))))]
def f35_c0 : MC := .reg false f35_r0
def f35_r1 : List MO := [
(Qa (Qv 7) (Qd (Qn 0))),
(Qa (Qv 8) (Qk Qt (Qn 7))),
(Qa (Qv 9) (Qd (Qo (Qp (Qq (Qr Qu 0))))))]
def f35_c1 : MC := .reg false f35_r1
def f35_r2 : List MO := [
(Qa (Qv 10) (Qe Qt Go.BinOp.lss (Qn 9) (Qn 8)))]
def f35_c2 : MC := .reg false f35_r2
def f35_c3 : MC := MC.skip
def f35_c4 : MC := (MC.exit 0)
def f35_c5 : MC := .cond (Qn 10) f35_c3 f35_c4
def f35_r6 : List MO := [
(Qa (Qv 11) (Qj 2 (Qn 7) (Qn 9))),
(Qa (Qv 12) (Qf 2 true (Qn 11))),
(Qa (Qv 4) (MOp.alloc [(Qr Qu 0), (D.sl [])])),
(Qa none (Ql 2 (Qn 4) (Qn 12)))]
def f35_c6 : MC := .reg false f35_r6
def f35_r7 : List MO := [
(Qa (Qv 14) (Qf 2 true (Qn 4))),
(Qa (Qv 15) (Qh 10 [(Qn 14)])),
(Qa (Qv 13) (Qd (Qn 15))),
(Qa (Qv 16) (Qi (Qn 13) 0)),
(Qa (Qv 17) (Qi (Qn 13) 1)),
(Qa (Qv 5) (Qd (Qn 16))),
(Qa (Qv 6) (Qd (Qn 17)))]
def f35_c7 : MC := .reg false f35_r7
def f35_r8 : List MO := [
(Qa (Qv 18) (Qd (Qn 6))),
(Qa (Qv 19) (Qe Qt Go.BinOp.neq (Qn 18) (Qo (Qp (Qq (Qr Qu 0))))))]
def f35_c8 : MC := .reg false f35_r8
def f35_r9 : List MO := [
(Qa (Qv 20) (Qd (Qn 6))),
(Qa (Qv 2) (Qd (Qn 20)))]
def f35_c9 : MC := .reg false f35_r9
def f35_c10 : MC := MC.ret
def f35_c11 : MC := .seq f35_c9 f35_c10
def f35_c12 : MC := MC.skip
def f35_c13 : MC := .cond (Qn 19) f35_c11 f35_c12
def f35_c14 : MC := .seq f35_c8 f35_c13
def f35_c15 : MC := .seq f35_c7 f35_c14
def f35_c16 : MC := .seq f35_c6 f35_c15
def f35_c17 : MC := .blk 1 f35_c16
def f35_r18 : List MO := [
(Qa (Qv 21) (Qe Qt Go.BinOp.add (Qn 9) (Qo (Qp (Qq (Qr Qu 1)))))),
(Qa (Qv 9) (Qd (Qn 21)))]
def f35_c18 : MC := .reg false f35_r18
def f35_c19 : MC := .seq f35_c17 f35_c18
def f35_c20 : MC := .seq f35_c5 f35_c19
def f35_c21 : MC := .seq f35_c2 f35_c20
def f35_c22 : MC := .loop f35_c21
def f35_c23 : MC := .blk 0 f35_c22
def f35_c24 : MC := .seq f35_c1 f35_c23
def f35_r25 : List MO := [
(Qa (Qv 2) (Qd (Qo (Qp (Qq (Qr Qu 0))))))]
def f35_c25 : MC := .reg false f35_r25
def f35_c26 : MC := MC.ret
def f35_c27 : MC := .seq f35_c25 f35_c26
def f35_c28 : MC := .seq f35_c24 f35_c27
def f35_c29 : MC := .seq f35_c0 f35_c28
noncomputable def f35_code : Code := (Go.Proofs.Tryd.f35.body).getD .skip
theorem f35_body : Go.Proofs.Tryd.f35.body = Qv f35_code := by kernel_rfl
theorem f35_tr : trC Go.Proofs.Tryd.prog [] f35_code = Qv f35_c29 := by kernel_rfl
theorem f35_rs : rsOf Go.Proofs.Tryd.prog Go.Proofs.Tryd.f35.results.toList = Qv [(RV.t 2)] := by kernel_rfl
theorem f35_nt : Go.Proofs.Tryd.f35.ntmps = 22 := by kernel_rfl
theorem f35_ok : callable Go.Proofs.Tryd.prog 35 = true := by kernel_rfl
theorem f35_in {gp : Heap} {args : List V} {res : V} (h : G ⟨Go.Proofs.Tryd.prog, gp, 0, [(RV.t 2)], fun r c => r = res ∧ c = [], false⟩ [.code f35_c29, .fin] ⟨args ++ List.replicate (22 - args.length) .un, []⟩) : Does Go.Proofs.Tryd.prog gp 35 args res :=
  does_intro f35_ok Go.Proofs.Tryd.func35 f35_body f35_tr f35_rs (by rw [f35_nt]; exact h)
theorem f35_tri {gp : Heap} {args : List V} {pre : List Ch} {R : V → List Ch → Prop} (h : G ⟨Go.Proofs.Tryd.prog, gp, pre.length, [(RV.t 2)], R, false⟩ [.code f35_c29, .fin] ⟨args ++ List.replicate (22 - args.length) .un, pre⟩) : Tri Go.Proofs.Tryd.prog gp 35 args pre R :=
  tri_intro Go.Proofs.Tryd.func35 f35_body f35_tr f35_rs (by rw [f35_nt]; exact h)
def f36_r0 : List MO := [
(Qa (Qv 1) (MOp.box (Qn 0))),
(Qa (Qv 2) (Qd (Qo (Qp (Qq D.nilF)))))]
def f36_c0 : MC := .reg false f36_r0
def f36_r1 : List MO := [
(Qa (Qv 3) (MOp.mkF (Go.Fn.func 55) [(Qn 1)])),
(Qa (Qv 2) (Qd (Qn 3)))]
def f36_c1 : MC := .reg false f36_r1
def f36_c2 : MC := MC.ret
def f36_c3 : MC := .seq f36_c1 f36_c2
def f36_c4 : MC := .seq f36_c0 f36_c3
noncomputable def f36_code : Code := (Go.Proofs.Tryd.f36.body).getD .skip
theorem f36_body : Go.Proofs.Tryd.f36.body = Qv f36_code := by kernel_rfl
theorem f36_tr : trC Go.Proofs.Tryd.prog [] f36_code = Qv f36_c4 := by kernel_rfl
theorem f36_rs : rsOf Go.Proofs.Tryd.prog Go.Proofs.Tryd.f36.results.toList = Qv [(RV.t 2)] := by kernel_rfl
theorem f36_nt : Go.Proofs.Tryd.f36.ntmps = 4 := by kernel_rfl
theorem f36_ok : callable Go.Proofs.Tryd.prog 36 = true := by kernel_rfl
theorem f36_in {gp : Heap} {args : List V} {res : V} (h : G ⟨Go.Proofs.Tryd.prog, gp, 0, [(RV.t 2)], fun r c => r = res ∧ c = [], false⟩ [.code f36_c4, .fin] ⟨args ++ List.replicate (4 - args.length) .un, []⟩) : Does Go.Proofs.Tryd.prog gp 36 args res :=
  does_intro f36_ok Go.Proofs.Tryd.func36 f36_body f36_tr f36_rs (by rw [f36_nt]; exact h)
theorem f36_tri {gp : Heap} {args : List V} {pre : List Ch} {R : V → List Ch → Prop} (h : G ⟨Go.Proofs.Tryd.prog, gp, pre.length, [(RV.t 2)], R, false⟩ [.code f36_c4, .fin] ⟨args ++ List.replicate (4 - args.length) .un, pre⟩) : Tri Go.Proofs.Tryd.prog gp 36 args pre R :=
  tri_intro Go.Proofs.Tryd.func36 f36_body f36_tr f36_rs (by rw [f36_nt]; exact h)
def f38_r0 : List MO := [
(Qa (Qv 3) (MOp.box (Qn 0))),
(Qa (Qv 6) (Qd (Qo (Qp (Qq (Qs false))))))]
def f38_c0 : MC := .reg false f38_r0
def f38_r1 : List MO := [
(Qa (Qv 10) (Qg 0 (Qn 3))),
(Qa (Qv 11) (Qf 1 false (Qn 10))),
(Qa (Qv 12) (Qd (Qn 1))),
(Qa (Qv 13) (MOp.lkp true (Qp (Qq (Qr Qu 0))) false [Qt] (Qn 11) (Qn 12))),
(Qa (Qv 9) (Qd (Qn 13))),
(Qa (Qv 14) (Qi (Qn 9) 0)),
(Qa (Qv 15) (Qi (Qn 9) 1)),
(Qa (Qv 7) (Qd (Qn 14))),
(Qa (Qv 8) (Qd (Qn 15)))]
def f38_c1 : MC := .reg false f38_r1
def f38_r2 : List MO := [
(Qa (Qv 16) (Qg 0 (Qn 3))),
(Qa (Qv 17) (Qf 1 false (Qn 16))),
(Qa (Qv 18) (Qd (Qn 1))),
(Qa (Qv 19) (Qd (Qn 2))),
(Qa none (MOp.mupd false [Qt] (Qn 17) (Qn 18) (Qn 19)))]
def f38_c2 : MC := .reg false f38_r2
def f38_r3 : List MO := [
(Qa (Qv 20) (Qd (Qn 8))),
(Qa (Qv 21) (MOp.not (Qn 20))),
(Qa (Qv 22) (Qd (Qn 21))),
(Qb 22 false (Qv 23)),
(Qa (Qv 23) (Qd (Qn 7))),
(Qb 22 false (Qv 24)),
(Qa (Qv 24) (Qd (Qn 2))),
(Qb 22 false (Qv 25)),
(Qa (Qv 25) (Qe Qt Go.BinOp.eql (Qn 23) (Qn 24))),
(Qa (Qv 26) (Qm (Qn 22) (Qo (Qp (Qq (Qs true)))) (Qn 25))),
(Qa (Qv 6) (Qd (Qn 26)))]
def f38_c3 : MC := .reg false f38_r3
def f38_c4 : MC := MC.ret
def f38_c5 : MC := .seq f38_c3 f38_c4
def f38_c6 : MC := .seq f38_c2 f38_c5
def f38_c7 : MC := .seq f38_c1 f38_c6
def f38_c8 : MC := .seq f38_c0 f38_c7
noncomputable def f38_code : Code := (Go.Proofs.Tryd.f38.body).getD .skip
theorem f38_body : Go.Proofs.Tryd.f38.body = Qv f38_code := by kernel_rfl
theorem f38_tr : trC Go.Proofs.Tryd.prog [] f38_code = Qv f38_c8 := by kernel_rfl
theorem f38_rs : rsOf Go.Proofs.Tryd.prog Go.Proofs.Tryd.f38.results.toList = Qv [(RV.t 6)] := by kernel_rfl
theorem f38_nt : Go.Proofs.Tryd.f38.ntmps = 27 := by kernel_rfl
theorem f38_ok : callable Go.Proofs.Tryd.prog 38 = true := by kernel_rfl
theorem f38_in {gp : Heap} {args : List V} {res : V} (h : G ⟨Go.Proofs.Tryd.prog, gp, 0, [(RV.t 6)], fun r c => r = res ∧ c = [], false⟩ [.code f38_c8, .fin] ⟨args ++ List.replicate (27 - args.length) .un, []⟩) : Does Go.Proofs.Tryd.prog gp 38 args res :=
  does_intro f38_ok Go.Proofs.Tryd.func38 f38_body f38_tr f38_rs (by rw [f38_nt]; exact h)
theorem f38_tri {gp : Heap} {args : List V} {pre : List Ch} {R : V → List Ch → Prop} (h : G ⟨Go.Proofs.Tryd.prog, gp, pre.length, [(RV.t 6)], R, false⟩ [.code f38_c8, .fin] ⟨args ++ List.replicate (27 - args.length) .un, pre⟩) : Tri Go.Proofs.Tryd.prog gp 38 args pre R :=
  tri_intro Go.Proofs.Tryd.func38 f38_body f38_tr f38_rs (by rw [f38_nt]; exact h)
def f55_c0 : MC := MC.skip
def f55_r1 : List MO := [
(Qa (Qv 6) (Qf 1 false (Qn 1))),
(Qa (Qv 7) (MOp.nck (Qn 6))),
(Qa (Qv 8) (Qg 5 (Qn 7))),
(Qa (Qv 9) (Qf 1 false (Qn 8))),
(Qa (Qv 10) (Qk Qt (Qn 9))),
(Qa (Qv 11) (Qe Qt Go.BinOp.gtr (Qn 10) (Qo (Qp (Qq (Qr Qu 0))))))]
def f55_c1 : MC := .reg false f55_r1
def f55_c2 : MC := MC.skip
def f55_c3 : MC := (MC.exit 0)
def f55_c4 : MC := .cond (Qn 11) f55_c2 f55_c3
def f55_c5 : MC := .seq f55_c1 f55_c4
def f55_r6 : List MO := [
(Qa (Qv 12) (Qf 1 false (Qn 1))),
(Qa (Qv 13) (MOp.nck (Qn 12))),
(Qa (Qv 14) (Qg 5 (Qn 13))),
(Qa (Qv 15) (Qf 1 false (Qn 14))),
(Qa (Qv 16) (Qk Qt (Qn 15))),
(Qa (Qv 17) (Qe Qt Go.BinOp.sub (Qn 16) (Qo (Qp (Qq (Qr Qu 1)))))),
(Qa (Qv 3) (Qd (Qn 17)))]
def f55_c6 : MC := .reg false f55_r6
def f55_r7 : List MO := [
(Qa (Qv 18) (Qf 1 false (Qn 1))),
(Qa (Qv 19) (MOp.nck (Qn 18))),
(Qa (Qv 20) (Qg 5 (Qn 19))),
(Qa (Qv 21) (Qf 1 false (Qn 20))),
(Qa (Qv 22) (Qd (Qn 3))),
(Qa (Qv 23) (Qj 2 (Qn 21) (Qn 22))),
(Qa (Qv 24) (Qf 2 true (Qn 23))),
(Qa (Qv 4) (MOp.alloc [(Qr Qu 0), (Qr Qu 0)])),
(Qa none (Ql 2 (Qn 4) (Qn 24)))]
def f55_c7 : MC := .reg false f55_r7
def f55_r8 : List MO := [
(Qa (Qv 25) (MOp.cld 1 false (Qn 1))),
(Qa (Qv 26) (MOp.cld 1 false (Qn 1))),
(Qa (Qv 27) (MOp.nck (Qn 26))),
(Qa (Qv 28) (Qg 5 (Qn 27))),
(Qa (Qv 29) (MOp.cld 1 false (Qn 28))),
(Qa (Qv 30) (Qd (Qn 3))),
(Qa (Qv 31) (MOp.slcR 2 (Qn 29) none (Qv (Qn 30)))),
(Qa (Qv 32) (MOp.nck (Qn 25))),
(Qa (Qv 33) (Qg 5 (Qn 32))),
(Qa none (Ql 1 (Qn 33) (Qn 31)))]
def f55_c8 : MC := .reg true f55_r8
def f55_r9 : List MO := [
(Qa (Qv 34) (MOp.cld 1 false (Qn 1))),
(Qa (Qv 35) (MOp.nck (Qn 34))),
(Qa (Qv 36) (Qg 4 (Qn 35))),
(Qa (Qv 37) (MOp.cld 1 false (Qn 36))),
(Qa (Qv 38) (MOp.cld 2 true (Qn 4))),
(Qa (Qv 39) (MOp.lkp false (Qp (Qq (Qs false))) true [Qt, Qt] (Qn 37) (Qn 38)))]
def f55_c9 : MC := .reg true f55_r9
def f55_c10 : MC := (MC.exit 1)
def f55_c11 : MC := MC.skip
def f55_c12 : MC := .cond (Qn 39) f55_c10 f55_c11
def f55_c13 : MC := .seq f55_c9 f55_c12
def f55_r14 : List MO := [
(Qa (Qv 40) (MOp.cld 1 false (Qn 1))),
(Qa (Qv 41) (MOp.nck (Qn 40))),
(Qa (Qv 42) (Qg 4 (Qn 41))),
(Qa (Qv 43) (MOp.cld 1 false (Qn 42))),
(Qa (Qv 44) (MOp.cld 2 true (Qn 4))),
(Qa none (MOp.mupd true [Qt, Qt] (Qn 43) (Qn 44) (Qo (Qp (Qq (Qs true))))))]
def f55_c14 : MC := .reg true f55_r14
def f55_r15 : List MO := [
(Qa (Qv 45) (MOp.cld 1 false (Qn 1))),
(Qa (Qv 46) (MOp.nck (Qn 45))),
(Qa (Qv 47) (Qg 0 (Qn 46))),
(Qa (Qv 48) (MOp.cld 4 true (Qn 47))),
(Qa (Qv 49) (MOp.cld 2 true (Qn 4))),
(Qc (Qv 50) (Qh 56 [(Qn 48), (Qn 49)])),
(Qa (Qv 5) (Qd (Qn 50)))]
def f55_c15 : MC := .reg true f55_r15
def f55_r16 : List MO := [
(Qa (Qv 51) (Qd (Qn 0))),
(Qa (Qv 52) (Qf 2 true (Qn 4))),
(Qa (Qv 53) (Qd (Qn 5))),
(Qa (Qv 54) (MOp.callv (Qn 51) [(Qn 52), (Qn 53)])),
(Qa (Qv 55) (MOp.not (Qn 54))),
(Qa (Qv 56) (Qd (Qn 55))),
(Qb 56 false (Qv 57)),
(Qa (Qv 57) (Qd (Qn 5))),
(Qb 56 false (Qv 58)),
(Qa (Qv 58) (Qf 1 false (Qo (Qp (Qq (D.raw (Go.Value.pointer (Qv (Go.Addr.mk 0 0 none))))))))),
(Qb 56 false (Qv 59)),
(Qa (Qv 59) (Qh 57 [(Qn 57), (Qn 58)])),
(Qa (Qv 60) (Qm (Qn 56) (Qo (Qp (Qq (Qs true)))) (Qn 59)))]
def f55_c16 : MC := .reg false f55_r16
def f55_c17 : MC := (MC.exit 0)
def f55_c18 : MC := MC.skip
def f55_c19 : MC := .cond (Qn 60) f55_c17 f55_c18
def f55_c20 : MC := .seq f55_c16 f55_c19
def f55_r21 : List MO := [
(Qa (Qv 61) (MOp.cld 1 false (Qn 1))),
(Qa (Qv 62) (MOp.cld 1 false (Qn 1))),
(Qa (Qv 63) (MOp.nck (Qn 62))),
(Qa (Qv 64) (Qg 0 (Qn 63))),
(Qa (Qv 65) (MOp.cld 4 true (Qn 64))),
(Qa (Qv 66) (MOp.cld 2 true (Qn 4))),
(Qa (Qv 67) (Qh 59 [(Qn 65), (Qn 66)])),
(Qc (Qv 68) (Qh 58 [(Qn 61), (Qn 67)]))]
def f55_c21 : MC := .reg true f55_r21
def f55_c22 : MC := .seq f55_c20 f55_c21
def f55_c23 : MC := .seq f55_c15 f55_c22
def f55_c24 : MC := .seq f55_c14 f55_c23
def f55_c25 : MC := .seq f55_c13 f55_c24
def f55_c26 : MC := .seq f55_c8 f55_c25
def f55_c27 : MC := .seq f55_c7 f55_c26
def f55_c28 : MC := .seq f55_c6 f55_c27
def f55_c29 : MC := .blk 1 f55_c28
def f55_c30 : MC := .seq f55_c5 f55_c29
def f55_c31 : MC := .loop f55_c30
def f55_c32 : MC := .blk 0 f55_c31
def f55_c33 : MC := .seq f55_c0 f55_c32
def f55_c34 : MC := .scope f55_c33
noncomputable def f55_code : Code := (Go.Proofs.Tryd.f55.body).getD .skip
theorem f55_body : Go.Proofs.Tryd.f55.body = Qv f55_code := by kernel_rfl
theorem f55_tr : trC Go.Proofs.Tryd.prog [2000] f55_code = Qv f55_c34 := by kernel_rfl
theorem f55_rs : rsOf Go.Proofs.Tryd.prog Go.Proofs.Tryd.f55.results.toList = Qv [] := by kernel_rfl
theorem f55_nt : Go.Proofs.Tryd.f55.ntmps = 69 := by kernel_rfl
theorem f55_ok : callable Go.Proofs.Tryd.prog 55 = true := by kernel_rfl
theorem f55_in {gp : Heap} {args : List V} {res : V} (h : G ⟨Go.Proofs.Tryd.prog, gp, 0, [], fun r c => r = res ∧ c = [], false⟩ [.code f55_c34, .fin] ⟨args ++ List.replicate (69 - args.length) .un, []⟩) : Does Go.Proofs.Tryd.prog gp 55 args res :=
  does_intro f55_ok Go.Proofs.Tryd.func55 f55_body f55_tr f55_rs (by rw [f55_nt]; exact h)
theorem f55_tri {gp : Heap} {args : List V} {pre : List Ch} {R : V → List Ch → Prop} (h : G ⟨Go.Proofs.Tryd.prog, gp, pre.length, [], R, false⟩ [.code f55_c34, .fin] ⟨args ++ List.replicate (69 - args.length) .un, pre⟩) : Tri Go.Proofs.Tryd.prog gp 55 args pre R :=
  tri_intro Go.Proofs.Tryd.func55 f55_body f55_tr f55_rs (by rw [f55_nt]; exact h)
def f56_r0 : List MO := [
(Qa (Qv 2) (MOp.ibox (Qn 0))),
(Qa (Qv 3) (MOp.ibox (Qn 1))),
(Qa (Qv 4) (Qd (Qo (Qp (Qq D.nilI)))))]
def f56_c0 : MC := .reg false f56_r0
def f56_r1 : List MO := [
(Qa (Qv 11) (Qg 0 (Qn 2))),
(Qa (Qv 12) (Qg 1 (Qn 11))),
(Qa (Qv 13) (MOp.ild 1 false (Qn 12))),
(Qa (Qv 14) (Qg 0 (Qn 3))),
(Qa (Qv 15) (MOp.ild 1 false (Qn 14))),
(Qa (Qv 16) (MOp.iadD 6 (Qn 13) (Qn 15))),
(Qa (Qv 17) (MOp.ild 6 true (Qn 16))),
(Qa (Qv 18) (Qg 2 (Qn 2))),
(Qa (Qv 19) (Qg 1 (Qn 18))),
(Qa (Qv 20) (MOp.ild 1 false (Qn 19))),
(Qa (Qv 21) (Qg 1 (Qn 3))),
(Qa (Qv 22) (MOp.ild 1 false (Qn 21))),
(Qa (Qv 23) (MOp.iadD 6 (Qn 20) (Qn 22))),
(Qa (Qv 24) (MOp.ild 6 true (Qn 23))),
(Qa (Qv 5) (MOp.ibox (Qn 17))),
(Qa (Qv 6) (MOp.ibox (Qn 24))),
(Qa none (MOp.holes [(5, 6), (6, 6)]))]
def f56_c1 : MC := .regv f56_r1
def f56_r2 : List MO := [
(Qa (Qv 26) (Qg 0 (Qn 2))),
(Qa (Qv 27) (Qf 2 true (Qn 26))),
(Qa (Qv 28) (Qg 0 (Qn 3))),
(Qa (Qv 29) (Qf 1 false (Qn 28))),
(Qa (Qv 30) (Qh 12 [(Qn 27), (Qn 29)])),
(Qa (Qv 25) (Qd (Qn 30))),
(Qa (Qv 31) (Qi (Qn 25) 0)),
(Qa (Qv 32) (Qi (Qn 25) 1)),
(Qa (Qv 7) (Qd (Qn 31))),
(Qa (Qv 8) (Qd (Qn 32)))]
def f56_c2 : MC := .reg false f56_r2
def f56_r3 : List MO := [
(Qa (Qv 34) (Qg 2 (Qn 2))),
(Qa (Qv 35) (Qf 2 true (Qn 34))),
(Qa (Qv 36) (Qg 1 (Qn 3))),
(Qa (Qv 37) (Qf 1 false (Qn 36))),
(Qa (Qv 38) (Qh 12 [(Qn 35), (Qn 37)])),
(Qa (Qv 33) (Qd (Qn 38))),
(Qa (Qv 39) (Qi (Qn 33) 0)),
(Qa (Qv 40) (Qi (Qn 33) 1)),
(Qa (Qv 9) (Qd (Qn 39))),
(Qa (Qv 10) (Qd (Qn 40)))]
def f56_c3 : MC := .reg false f56_r3
def f56_r4 : List MO := [
(Qa (Qv 41) (Qg 0 (Qn 5))),
(Qa (Qv 42) (Qf 1 false (Qn 41))),
(Qa (Qv 43) (Qg 0 (Qn 6))),
(Qa (Qv 44) (Qf 1 false (Qn 43))),
(Qa (Qv 45) (Qe Qt Go.BinOp.neq (Qn 42) (Qn 44))),
(Qa (Qv 46) (Qd (Qn 45))),
(Qb 46 false (Qv 47)),
(Qa (Qv 47) (Qg 1 (Qn 5))),
(Qb 46 false (Qv 48)),
(Qa (Qv 48) (Qf 3 true (Qn 47))),
(Qb 46 false (Qv 49)),
(Qa (Qv 49) (Qg 1 (Qn 6))),
(Qb 46 false (Qv 50)),
(Qa (Qv 50) (Qf 3 true (Qn 49))),
(Qb 46 false (Qv 51)),
(Qa (Qv 51) (MOp.eqs true [Qt, Qt, Leaf.s] (Qn 48) (Qn 50))),
(Qa (Qv 52) (Qm (Qn 46) (Qo (Qp (Qq (Qs true)))) (Qn 51))),
(Qa (Qv 53) (Qd (Qn 52))),
(Qb 53 false (Qv 54)),
(Qa (Qv 54) (Qd (Qn 7))),
(Qb 53 false (Qv 55)),
(Qa (Qv 55) (Qd (Qn 9))),
(Qb 53 false (Qv 56)),
(Qa (Qv 56) (Qh 42 [(Qn 54), (Qn 55)])),
(Qb 53 false (Qv 57)),
(Qa (Qv 57) (MOp.not (Qn 56))),
(Qa (Qv 58) (Qm (Qn 53) (Qo (Qp (Qq (Qs true)))) (Qn 57))),
(Qa (Qv 59) (Qd (Qn 58))),
(Qb 59 false (Qv 60)),
(Qa (Qv 60) (Qg 5 (Qn 5))),
(Qb 59 false (Qv 61)),
(Qa (Qv 61) (Qf 1 false (Qn 60))),
(Qb 59 false (Qv 62)),
(Qa (Qv 62) (Qk Qt (Qn 61))),
(Qb 59 false (Qv 63)),
(Qa (Qv 63) (Qg 5 (Qn 6))),
(Qb 59 false (Qv 64)),
(Qa (Qv 64) (Qf 1 false (Qn 63))),
(Qb 59 false (Qv 65)),
(Qa (Qv 65) (Qk Qt (Qn 64))),
(Qb 59 false (Qv 66)),
(Qa (Qv 66) (Qe Qt Go.BinOp.neq (Qn 62) (Qn 65))),
(Qa (Qv 67) (Qm (Qn 59) (Qo (Qp (Qq (Qs true)))) (Qn 66)))]
def f56_c4 : MC := .reg false f56_r4
def f56_r5 : List MO := [
(Qa (Qv 68) (Qf 1 false (Qo (Qp (Qq (D.raw (Go.Value.pointer (Qv (Go.Addr.mk 0 0 none))))))))),
(Qa (Qv 4) (Qd (Qn 68)))]
def f56_c5 : MC := .reg false f56_r5
def f56_c6 : MC := MC.ret
def f56_c7 : MC := .seq f56_c5 f56_c6
def f56_c8 : MC := MC.skip
def f56_c9 : MC := .cond (Qn 67) f56_c7 f56_c8
def f56_c10 : MC := .seq f56_c4 f56_c9
def f56_r11 : List MO := [
(Qa (Qv 4) (Qd (Qo (Qp (Qq D.nilI)))))]
def f56_c11 : MC := .reg false f56_r11
def f56_c12 : MC := MC.ret
def f56_c13 : MC := .seq f56_c11 f56_c12
def f56_c14 : MC := .seq f56_c10 f56_c13
def f56_c15 : MC := .seq f56_c3 f56_c14
def f56_c16 : MC := .seq f56_c2 f56_c15
def f56_c17 : MC := .seq f56_c1 f56_c16
def f56_c18 : MC := .seq f56_c0 f56_c17
noncomputable def f56_code : Code := (Go.Proofs.Tryd.f56.body).getD .skip
theorem f56_body : Go.Proofs.Tryd.f56.body = Qv f56_code := by kernel_rfl
theorem f56_tr : trC Go.Proofs.Tryd.prog [2, 3, 1002, 1003] f56_code = Qv f56_c18 := by kernel_rfl
theorem f56_rs : rsOf Go.Proofs.Tryd.prog Go.Proofs.Tryd.f56.results.toList = Qv [(RV.t 4)] := by kernel_rfl
theorem f56_nt : Go.Proofs.Tryd.f56.ntmps = 69 := by kernel_rfl
theorem f56_ok : callable Go.Proofs.Tryd.prog 56 = true := by kernel_rfl
theorem f56_in {gp : Heap} {args : List V} {res : V} (h : G ⟨Go.Proofs.Tryd.prog, gp, 0, [(RV.t 4)], fun r c => r = res ∧ c = [], false⟩ [.code f56_c18, .fin] ⟨args ++ List.replicate (69 - args.length) .un, []⟩) : Does Go.Proofs.Tryd.prog gp 56 args res :=
  does_intro f56_ok Go.Proofs.Tryd.func56 f56_body f56_tr f56_rs (by rw [f56_nt]; exact h)
theorem f56_tri {gp : Heap} {args : List V} {pre : List Ch} {R : V → List Ch → Prop} (h : G ⟨Go.Proofs.Tryd.prog, gp, pre.length, [(RV.t 4)], R, false⟩ [.code f56_c18, .fin] ⟨args ++ List.replicate (69 - args.length) .un, pre⟩) : Tri Go.Proofs.Tryd.prog gp 56 args pre R :=
  tri_intro Go.Proofs.Tryd.func56 f56_body f56_tr f56_rs (by rw [f56_nt]; exact h)
-- f57: trC none
def f58_r0 : List MO := [
(Qa (Qv 2) (MOp.box (Qn 0)))]
def f58_c0 : MC := .reg false f58_r0
def f58_r1 : List MO := [
(Qa (Qv 6) (Qd (Qn 1))),
(Qa (Qv 7) (Qh 74 [(Qn 6)]))]
def f58_c1 : MC := .reg false f58_r1
def f58_r2 : List MO := [
(Qa (Qv 5) (MOp.alloc [(Qr Qu 0), (Qr Qu 0)])),
(Qa none (Ql 2 (Qn 5) (Qn 9)))]
def f58_c2 : MC := .reg false f58_r2
def f58_r3 : List MO := [
(Qa (Qv 10) (MOp.cld 1 false (Qn 2))),
(Qa (Qv 11) (MOp.cld 1 false (Qn 2))),
(Qa (Qv 12) (MOp.nck (Qn 11))),
(Qa (Qv 13) (Qg 5 (Qn 12))),
(Qa (Qv 14) (MOp.cld 1 false (Qn 13))),
(Qa (Qv 15) (MOp.cld 2 true (Qn 5))),
(Qa (Qv 16) (MOp.bslice 2 [(Qr Qu 0), (Qr Qu 0)] 1 [(0, (Qn 15))])),
(Qa (Qv 17) (MOp.app 2 16 (Qn 14) (Qn 16))),
(Qa (Qv 18) (MOp.nck (Qn 10))),
(Qa (Qv 19) (Qg 5 (Qn 18))),
(Qa none (Ql 1 (Qn 19) (Qn 17)))]
def f58_c3 : MC := .reg true f58_r3
def f58_c4 : MC := .blk 1 f58_c3
def f58_c5 : MC := .rf (Qn 7) [8, 9] f58_c2 f58_c4
def f58_c6 : MC := .blk 0 f58_c5
def f58_c7 : MC := .seq f58_c1 f58_c6
def f58_c8 : MC := .seq f58_c0 f58_c7
noncomputable def f58_code : Code := (Go.Proofs.Tryd.f58.body).getD .skip
theorem f58_body : Go.Proofs.Tryd.f58.body = Qv f58_code := by kernel_rfl
theorem f58_tr : trC Go.Proofs.Tryd.prog [2000] f58_code = Qv f58_c8 := by kernel_rfl
theorem f58_rs : rsOf Go.Proofs.Tryd.prog Go.Proofs.Tryd.f58.results.toList = Qv [] := by kernel_rfl
theorem f58_nt : Go.Proofs.Tryd.f58.ntmps = 20 := by kernel_rfl
theorem f58_ok : callable Go.Proofs.Tryd.prog 58 = true := by kernel_rfl
theorem f58_in {gp : Heap} {args : List V} {res : V} (h : G ⟨Go.Proofs.Tryd.prog, gp, 0, [], fun r c => r = res ∧ c = [], false⟩ [.code f58_c8, .fin] ⟨args ++ List.replicate (20 - args.length) .un, []⟩) : Does Go.Proofs.Tryd.prog gp 58 args res :=
  does_intro f58_ok Go.Proofs.Tryd.func58 f58_body f58_tr f58_rs (by rw [f58_nt]; exact h)
theorem f58_tri {gp : Heap} {args : List V} {pre : List Ch} {R : V → List Ch → Prop} (h : G ⟨Go.Proofs.Tryd.prog, gp, pre.length, [], R, false⟩ [.code f58_c8, .fin] ⟨args ++ List.replicate (20 - args.length) .un, pre⟩) : Tri Go.Proofs.Tryd.prog gp 58 args pre R :=
  tri_intro Go.Proofs.Tryd.func58 f58_body f58_tr f58_rs (by rw [f58_nt]; exact h)
def f59_r0 : List MO := [
(Qa (Qv 2) (MOp.ibox (Qn 0))),
(Qa (Qv 3) (MOp.ibox (Qn 1))),
(Qa (Qv 4) (Qd (Qo (Qp A.nil))))]
def f59_c0 : MC := .reg false f59_r0
def f59_r1 : List MO := [
(Qa (Qv 12) (Qg 0 (Qn 2))),
(Qa (Qv 13) (Qf 2 true (Qn 12))),
(Qa (Qv 14) (Qg 0 (Qn 3))),
(Qa (Qv 15) (Qf 1 false (Qn 14))),
(Qa (Qv 16) (Qh 11 [(Qn 13), (Qn 15)])),
(Qa (Qv 11) (Qd (Qn 16))),
(Qa (Qv 17) (Qi (Qn 11) 0)),
(Qa (Qv 18) (Qi (Qn 11) 1)),
(Qa (Qv 5) (Qd (Qn 17))),
(Qa (Qv 6) (Qd (Qn 18)))]
def f59_c1 : MC := .reg false f59_r1
def f59_r2 : List MO := [
(Qa (Qv 20) (Qg 2 (Qn 2))),
(Qa (Qv 21) (Qf 2 true (Qn 20))),
(Qa (Qv 22) (Qg 1 (Qn 3))),
(Qa (Qv 23) (Qf 1 false (Qn 22))),
(Qa (Qv 24) (Qh 11 [(Qn 21), (Qn 23)])),
(Qa (Qv 19) (Qd (Qn 24))),
(Qa (Qv 25) (Qi (Qn 19) 0)),
(Qa (Qv 26) (Qi (Qn 19) 1)),
(Qa (Qv 7) (Qd (Qn 25))),
(Qa (Qv 8) (Qd (Qn 26)))]
def f59_c2 : MC := .reg false f59_r2
def f59_r3 : List MO := [
(Qa (Qv 9) (Qd (Qo (Qp A.nil))))]
def f59_c3 : MC := .reg false f59_r3
def f59_r4 : List MO := [
(Qa (Qv 27) (Qd (Qn 5))),
(Qa (Qv 28) (Qk Qt (Qn 27))),
(Qa (Qv 29) (Qd (Qo (Qp (Qq (Qr Qu 0))))))]
def f59_c4 : MC := .reg false f59_r4
def f59_r5 : List MO := [
(Qa (Qv 30) (Qe Qt Go.BinOp.lss (Qn 29) (Qn 28)))]
def f59_c5 : MC := .reg false f59_r5
def f59_c6 : MC := MC.skip
def f59_c7 : MC := (MC.exit 0)
def f59_c8 : MC := .cond (Qn 30) f59_c6 f59_c7
def f59_r9 : List MO := [
(Qa (Qv 31) (Qd (Qn 29))),
(Qa (Qv 10) (Qd (Qn 31)))]
def f59_c9 : MC := .reg false f59_r9
def f59_r10 : List MO := [
(Qa (Qv 32) (Qd (Qn 9))),
(Qa (Qv 33) (Qd (Qn 5))),
(Qa (Qv 34) (Qd (Qn 10))),
(Qa (Qv 35) (Qj 1 (Qn 33) (Qn 34))),
(Qa (Qv 36) (Qf 1 false (Qn 35))),
(Qa (Qv 37) (Qd (Qn 7))),
(Qa (Qv 38) (Qd (Qn 10))),
(Qa (Qv 39) (Qj 1 (Qn 37) (Qn 38))),
(Qa (Qv 40) (Qf 1 false (Qn 39))),
(Qa (Qv 41) (MOp.build [(Qr Qu 0), (Qr Qu 0)] [(0, (1, (Qn 36))), (1, (1, (Qn 40)))])),
(Qa (Qv 42) (MOp.bslice 2 [(Qr Qu 0), (Qr Qu 0)] 1 [(0, (Qn 41))])),
(Qa (Qv 43) (MOp.app 2 16 (Qn 32) (Qn 42))),
(Qa (Qv 9) (Qd (Qn 43)))]
def f59_c10 : MC := .reg true f59_r10
def f59_c11 : MC := .seq f59_c9 f59_c10
def f59_c12 : MC := .blk 1 f59_c11
def f59_r13 : List MO := [
(Qa (Qv 44) (Qe Qt Go.BinOp.add (Qn 29) (Qo (Qp (Qq (Qr Qu 1)))))),
(Qa (Qv 29) (Qd (Qn 44)))]
def f59_c13 : MC := .reg false f59_r13
def f59_c14 : MC := .seq f59_c12 f59_c13
def f59_c15 : MC := .seq f59_c8 f59_c14
def f59_c16 : MC := .seq f59_c5 f59_c15
def f59_c17 : MC := .loop f59_c16
def f59_c18 : MC := .blk 0 f59_c17
def f59_c19 : MC := .seq f59_c4 f59_c18
def f59_r20 : List MO := [
(Qa (Qv 45) (Qd (Qn 9))),
(Qa (Qv 4) (Qd (Qn 45)))]
def f59_c20 : MC := .reg false f59_r20
def f59_c21 : MC := MC.ret
def f59_c22 : MC := .seq f59_c20 f59_c21
def f59_c23 : MC := .seq f59_c19 f59_c22
def f59_c24 : MC := .seq f59_c3 f59_c23
def f59_c25 : MC := .seq f59_c2 f59_c24
def f59_c26 : MC := .seq f59_c1 f59_c25
def f59_c27 : MC := .seq f59_c0 f59_c26
noncomputable def f59_code : Code := (Go.Proofs.Tryd.f59.body).getD .skip
theorem f59_body : Go.Proofs.Tryd.f59.body = Qv f59_code := by kernel_rfl
theorem f59_tr : trC Go.Proofs.Tryd.prog [2, 3] f59_code = Qv f59_c27 := by kernel_rfl
theorem f59_rs : rsOf Go.Proofs.Tryd.prog Go.Proofs.Tryd.f59.results.toList = Qv [(RV.t 4)] := by kernel_rfl
theorem f59_nt : Go.Proofs.Tryd.f59.ntmps = 46 := by kernel_rfl
theorem f59_ok : callable Go.Proofs.Tryd.prog 59 = true := by kernel_rfl
theorem f59_in {gp : Heap} {args : List V} {res : V} (h : G ⟨Go.Proofs.Tryd.prog, gp, 0, [(RV.t 4)], fun r c => r = res ∧ c = [], false⟩ [.code f59_c27, .fin] ⟨args ++ List.replicate (46 - args.length) .un, []⟩) : Does Go.Proofs.Tryd.prog gp 59 args res :=
  does_intro f59_ok Go.Proofs.Tryd.func59 f59_body f59_tr f59_rs (by rw [f59_nt]; exact h)
theorem f59_tri {gp : Heap} {args : List V} {pre : List Ch} {R : V → List Ch → Prop} (h : G ⟨Go.Proofs.Tryd.prog, gp, pre.length, [(RV.t 4)], R, false⟩ [.code f59_c27, .fin] ⟨args ++ List.replicate (46 - args.length) .un, pre⟩) : Tri Go.Proofs.Tryd.prog gp 59 args pre R :=
  tri_intro Go.Proofs.Tryd.func59 f59_body f59_tr f59_rs (by rw [f59_nt]; exact h)
def f74_r0 : List MO := [
(Qa (Qv 1) (MOp.ibox (Qn 0))),
(Qa (Qv 2) (Qd (Qo (Qp (Qq D.nilF)))))]
def f74_c0 : MC := .reg false f74_r0
def f74_r1 : List MO := [
(Qa (Qv 3) (MOp.mkF (Go.Fn.func 86) [(Qn 1)])),
(Qa (Qv 2) (Qd (Qn 3)))]
def f74_c1 : MC := .reg false f74_r1
def f74_c2 : MC := MC.ret
def f74_c3 : MC := .seq f74_c1 f74_c2
def f74_c4 : MC := .seq f74_c0 f74_c3
noncomputable def f74_code : Code := (Go.Proofs.Tryd.f74.body).getD .skip
theorem f74_body : Go.Proofs.Tryd.f74.body = Qv f74_code := by kernel_rfl
theorem f74_tr : trC Go.Proofs.Tryd.prog [1] f74_code = Qv f74_c4 := by kernel_rfl
theorem f74_rs : rsOf Go.Proofs.Tryd.prog Go.Proofs.Tryd.f74.results.toList = Qv [(RV.t 2)] := by kernel_rfl
theorem f74_nt : Go.Proofs.Tryd.f74.ntmps = 4 := by kernel_rfl
theorem f74_ok : callable Go.Proofs.Tryd.prog 74 = true := by kernel_rfl
theorem f74_in {gp : Heap} {args : List V} {res : V} (h : G ⟨Go.Proofs.Tryd.prog, gp, 0, [(RV.t 2)], fun r c => r = res ∧ c = [], false⟩ [.code f74_c4, .fin] ⟨args ++ List.replicate (4 - args.length) .un, []⟩) : Does Go.Proofs.Tryd.prog gp 74 args res :=
  does_intro f74_ok Go.Proofs.Tryd.func74 f74_body f74_tr f74_rs (by rw [f74_nt]; exact h)
theorem f74_tri {gp : Heap} {args : List V} {pre : List Ch} {R : V → List Ch → Prop} (h : G ⟨Go.Proofs.Tryd.prog, gp, pre.length, [(RV.t 2)], R, false⟩ [.code f74_c4, .fin] ⟨args ++ List.replicate (4 - args.length) .un, pre⟩) : Tri Go.Proofs.Tryd.prog gp 74 args pre R :=
  tri_intro Go.Proofs.Tryd.func74 f74_body f74_tr f74_rs (by rw [f74_nt]; exact h)
def f86_r0 : List MO := [
(Qa (Qv 4) (Qf 1 false (Qn 1))),
(Qa (Qv 5) (Qk Qt (Qn 4))),
(Qa (Qv 6) (Qe Qt Go.BinOp.sub (Qn 5) (Qo (Qp (Qq (Qr Qu 1)))))),
(Qa (Qv 3) (Qd (Qn 6)))]
def f86_c0 : MC := .reg false f86_r0
def f86_r1 : List MO := [
(Qa (Qv 7) (Qd (Qn 3))),
(Qa (Qv 8) (Qe Qt Go.BinOp.geq (Qn 7) (Qo (Qp (Qq (Qr Qu 0))))))]
def f86_c1 : MC := .reg false f86_r1
def f86_c2 : MC := MC.skip
def f86_c3 : MC := (MC.exit 0)
def f86_c4 : MC := .cond (Qn 8) f86_c2 f86_c3
def f86_c5 : MC := .seq f86_c1 f86_c4
def f86_r6 : List MO := [
(Qa (Qv 11) (Qd (Qn 0))),
(Qa (Qv 12) (Qd (Qn 3))),
(Qa (Qv 13) (Qf 1 false (Qn 1))),
(Qa (Qv 14) (Qd (Qn 3))),
(Qa (Qv 15) (Qj 2 (Qn 13) (Qn 14))),
(Qa (Qv 16) (Qf 2 true (Qn 15))),
(Qa (Qv 17) (MOp.callv (Qn 11) [(Qn 12), (Qn 16)])),
(Qa (Qv 18) (MOp.not (Qn 17)))]
def f86_c6 : MC := .reg false f86_r6
def f86_c7 : MC := MC.ret
def f86_c8 : MC := MC.skip
def f86_c9 : MC := .cond (Qn 18) f86_c7 f86_c8
def f86_c10 : MC := .seq f86_c6 f86_c9
def f86_c11 : MC := .blk 1 f86_c10
def f86_r12 : List MO := [
(Qa (Qv 9) (Qd (Qn 3))),
(Qa (Qv 10) (Qe Qt Go.BinOp.sub (Qn 9) (Qo (Qp (Qq (Qr Qu 1)))))),
(Qa (Qv 3) (Qd (Qn 10)))]
def f86_c12 : MC := .reg false f86_r12
def f86_c13 : MC := .seq f86_c11 f86_c12
def f86_c14 : MC := .seq f86_c5 f86_c13
def f86_c15 : MC := .loop f86_c14
def f86_c16 : MC := .blk 0 f86_c15
def f86_c17 : MC := .seq f86_c0 f86_c16
noncomputable def f86_code : Code := (Go.Proofs.Tryd.f86.body).getD .skip
theorem f86_body : Go.Proofs.Tryd.f86.body = Qv f86_code := by kernel_rfl
theorem f86_tr : trC Go.Proofs.Tryd.prog [] f86_code = Qv f86_c17 := by kernel_rfl
theorem f86_rs : rsOf Go.Proofs.Tryd.prog Go.Proofs.Tryd.f86.results.toList = Qv [] := by kernel_rfl
theorem f86_nt : Go.Proofs.Tryd.f86.ntmps = 19 := by kernel_rfl
theorem f86_ok : callable Go.Proofs.Tryd.prog 86 = true := by kernel_rfl
theorem f86_in {gp : Heap} {args : List V} {res : V} (h : G ⟨Go.Proofs.Tryd.prog, gp, 0, [], fun r c => r = res ∧ c = [], false⟩ [.code f86_c17, .fin] ⟨args ++ List.replicate (19 - args.length) .un, []⟩) : Does Go.Proofs.Tryd.prog gp 86 args res :=
  does_intro f86_ok Go.Proofs.Tryd.func86 f86_body f86_tr f86_rs (by rw [f86_nt]; exact h)
theorem f86_tri {gp : Heap} {args : List V} {pre : List Ch} {R : V → List Ch → Prop} (h : G ⟨Go.Proofs.Tryd.prog, gp, pre.length, [], R, false⟩ [.code f86_c17, .fin] ⟨args ++ List.replicate (19 - args.length) .un, pre⟩) : Tri Go.Proofs.Tryd.prog gp 86 args pre R :=
  tri_intro Go.Proofs.Tryd.func86 f86_body f86_tr f86_rs (by rw [f86_nt]; exact h)
end Go.Fw.L07
