/- Small codes. -/
import Derived.Test.YtfonfncokpdaaaaGreatDoorFd
import Derived.Test.YtfonfncokpdaaaaGreatDoorProg
set_option linter.all false
namespace Go.Fw.L07
open Go Go.Fw
open Go.Fw.MO renaming op → Qa, chk → Qb, opx → Qc
open Go.Fw.MOp renaming mv → Qd, bin → Qe, load → Qf, fad → Qg, call → Qh, ext → Qi, iad → Qj, len → Qk, store → Ql, pick → Qm
open Go.Fw.Opd renaming t → Qn, c → Qo
open Go.Fw.V renaming one → Qp
open Go.Fw.A renaming d → Qq
open Go.Fw.D renaming int → Qr, bool → Qs
open Go.Fw.Leaf renaming i → Qt
open Go.IntKind renaming i64 → Qu
open Option renaming some → Qv
def f8_r0 : List MO := [
(Qa (Qv 3) (MOp.box (Qn 0))),
(Qa (Qv 4) (MOp.box (Qn 1))),
(Qa (Qv 5) (MOp.box (Qn 2))),
(Qa (Qv 6) (Qd (Qo (Qp (Qq (Qs false))))))]
def f8_c0 : MC := .reg false f8_r0
def f8_r1 : List MO := [
(Qa (Qv 22) (Qh 16 [])),
(Qa (Qv 7) (Qd (Qn 22)))]
def f8_c1 : MC := .reg false f8_r1
def f8_r2 : List MO := [
(Qa (Qv 23) (Qf 2 true (Qn 3))),
(Qa (Qv 24) (Qh 17 [(Qn 23), (Qo (Qp (Qq (Qr Qu 30))))])),
(Qa none (Ql 2 (Qn 3) (Qn 24)))]
def f8_c2 : MC := .reg false f8_r2
def f8_r3 : List MO := [
(Qa (Qv 25) (Qf 2 true (Qn 4))),
(Qa (Qv 26) (Qh 17 [(Qn 25), (Qo (Qp (Qq (Qr Qu 30))))])),
(Qa none (Ql 2 (Qn 4) (Qn 26)))]
def f8_c3 : MC := .reg false f8_r3
def f8_r4 : List MO := [
(Qa (Qv 27) (Qf 2 true (Qn 5))),
(Qa (Qv 28) (Qh 17 [(Qn 27), (Qo (Qp (Qq (Qr Qu 30))))])),
(Qa none (Ql 2 (Qn 5) (Qn 28)))]
def f8_c4 : MC := .reg false f8_r4
def f8_r5 : List MO := [
(Qa (Qv 30) (Qf 2 true (Qn 3))),
(Qa (Qv 31) (Qh 22 [(Qn 30)])),
(Qa (Qv 29) (Qd (Qn 31))),
(Qa (Qv 32) (Qi (Qn 29) 0)),
(Qa (Qv 33) (Qi (Qn 29) 1)),
(Qa (Qv 8) (MOp.alloc [(Qr Qu 0), (D.sl [])])),
(Qa none (Ql 2 (Qn 8) (Qn 32))),
(Qa (Qv 9) (Qd (Qn 33)))]
def f8_c5 : MC := .reg false f8_r5
def f8_r6 : List MO := [
(Qa (Qv 34) (Qd (Qn 9))),
(Qa (Qv 35) (Qe Qt Go.BinOp.neq (Qn 34) (Qo (Qp (Qq (Qr Qu 0))))))]
def f8_c6 : MC := .reg false f8_r6
def f8_r7 : List MO := [
(Qa (Qv 36) (Qd (Qn 7))),
(Qa (Qv 6) (Qd (Qn 36)))]
def f8_c7 : MC := .reg false f8_r7
def f8_c8 : MC := MC.ret
def f8_c9 : MC := .seq f8_c7 f8_c8
def f8_c10 : MC := MC.skip
def f8_c11 : MC := .cond (Qn 35) f8_c9 f8_c10
def f8_c12 : MC := .seq f8_c6 f8_c11
def f8_r13 : List MO := [
(Qa (Qv 38) (Qf 2 true (Qn 3))),
(Qa (Qv 39) (Qf 2 true (Qn 3))),
(Qa (Qv 40) (Qh 18 [(Qn 38), (Qn 39)])),
(Qa (Qv 37) (Qd (Qn 40))),
(Qa (Qv 41) (Qi (Qn 37) 0)),
(Qa (Qv 42) (Qi (Qn 37) 1)),
(Qa (Qv 10) (Qd (Qn 41))),
(Qa (Qv 11) (Qd (Qn 42)))]
def f8_c13 : MC := .reg false f8_r13
def f8_r14 : List MO := [
(Qa (Qv 44) (Qf 2 true (Qn 3))),
(Qa (Qv 45) (Qf 2 true (Qn 8))),
(Qa (Qv 46) (Qh 18 [(Qn 44), (Qn 45)])),
(Qa (Qv 43) (Qd (Qn 46))),
(Qa (Qv 47) (Qi (Qn 43) 0)),
(Qa (Qv 48) (Qi (Qn 43) 1)),
(Qa (Qv 12) (Qd (Qn 47))),
(Qa (Qv 13) (Qd (Qn 48)))]
def f8_c14 : MC := .reg false f8_r14
def f8_r15 : List MO := [
(Qa (Qv 50) (Qf 2 true (Qn 3))),
(Qa (Qv 51) (Qf 2 true (Qn 4))),
(Qa (Qv 52) (Qh 18 [(Qn 50), (Qn 51)])),
(Qa (Qv 49) (Qd (Qn 52))),
(Qa (Qv 53) (Qi (Qn 49) 0)),
(Qa (Qv 54) (Qi (Qn 49) 1)),
(Qa (Qv 14) (Qd (Qn 53))),
(Qa (Qv 15) (Qd (Qn 54)))]
def f8_c15 : MC := .reg false f8_r15
def f8_r16 : List MO := [
(Qa (Qv 56) (Qf 2 true (Qn 4))),
(Qa (Qv 57) (Qf 2 true (Qn 3))),
(Qa (Qv 58) (Qh 18 [(Qn 56), (Qn 57)])),
(Qa (Qv 55) (Qd (Qn 58))),
(Qa (Qv 59) (Qi (Qn 55) 0)),
(Qa (Qv 60) (Qi (Qn 55) 1)),
(Qa (Qv 16) (Qd (Qn 59))),
(Qa (Qv 17) (Qd (Qn 60)))]
def f8_c16 : MC := .reg false f8_r16
def f8_r17 : List MO := [
(Qa (Qv 62) (Qf 2 true (Qn 4))),
(Qa (Qv 63) (Qf 2 true (Qn 5))),
(Qa (Qv 64) (Qh 18 [(Qn 62), (Qn 63)])),
(Qa (Qv 61) (Qd (Qn 64))),
(Qa (Qv 65) (Qi (Qn 61) 0)),
(Qa (Qv 66) (Qi (Qn 61) 1)),
(Qa (Qv 18) (Qd (Qn 65))),
(Qa (Qv 19) (Qd (Qn 66)))]
def f8_c17 : MC := .reg false f8_r17
def f8_r18 : List MO := [
(Qa (Qv 68) (Qf 2 true (Qn 3))),
(Qa (Qv 69) (Qf 2 true (Qn 5))),
(Qa (Qv 70) (Qh 18 [(Qn 68), (Qn 69)])),
(Qa (Qv 67) (Qd (Qn 70))),
(Qa (Qv 71) (Qi (Qn 67) 0)),
(Qa (Qv 72) (Qi (Qn 67) 1)),
(Qa (Qv 20) (Qd (Qn 71))),
(Qa (Qv 21) (Qd (Qn 72)))]
def f8_c18 : MC := .reg false f8_r18
def f8_r19 : List MO := [
(Qa (Qv 73) (Qd (Qn 7))),
(Qa (Qv 74) (Qd (Qn 73))),
(Qb 74 true (Qv 75)),
(Qa (Qv 75) (Qd (Qn 11))),
(Qb 74 true (Qv 76)),
(Qa (Qv 76) (Qe Qt Go.BinOp.eql (Qn 75) (Qo (Qp (Qq (Qr Qu 0)))))),
(Qa (Qv 77) (Qm (Qn 74) (Qn 76) (Qo (Qp (Qq (Qs false)))))),
(Qa (Qv 78) (Qd (Qn 77))),
(Qb 78 true (Qv 79)),
(Qa (Qv 79) (Qd (Qn 10))),
(Qa (Qv 80) (Qm (Qn 78) (Qn 79) (Qo (Qp (Qq (Qs false)))))),
(Qa (Qv 81) (Qd (Qn 80))),
(Qb 81 true (Qv 82)),
(Qa (Qv 82) (Qd (Qn 13))),
(Qb 81 true (Qv 83)),
(Qa (Qv 83) (Qe Qt Go.BinOp.eql (Qn 82) (Qo (Qp (Qq (Qr Qu 0)))))),
(Qa (Qv 84) (Qm (Qn 81) (Qn 83) (Qo (Qp (Qq (Qs false)))))),
(Qa (Qv 85) (Qd (Qn 84))),
(Qb 85 true (Qv 86)),
(Qa (Qv 86) (Qd (Qn 12))),
(Qa (Qv 87) (Qm (Qn 85) (Qn 86) (Qo (Qp (Qq (Qs false)))))),
(Qa (Qv 88) (Qd (Qn 87))),
(Qb 88 true (Qv 89)),
(Qa (Qv 89) (Qd (Qn 14))),
(Qb 88 true (Qv 90)),
(Qa (Qv 90) (Qd (Qn 16))),
(Qb 88 true (Qv 91)),
(Qa (Qv 91) (Qe Leaf.b Go.BinOp.eql (Qn 89) (Qn 90))),
(Qa (Qv 92) (Qm (Qn 88) (Qn 91) (Qo (Qp (Qq (Qs false)))))),
(Qa (Qv 93) (Qd (Qn 92))),
(Qb 93 true (Qv 94)),
(Qa (Qv 94) (Qd (Qn 14))),
(Qb 93 true (Qv 95)),
(Qa (Qv 95) (MOp.not (Qn 94))),
(Qb 93 true (Qv 96)),
(Qa (Qv 96) (Qd (Qn 95))),
(Qb 96 false (Qv 97)),
(Qa (Qv 97) (Qd (Qn 18))),
(Qb 96 false (Qv 98)),
(Qa (Qv 98) (MOp.not (Qn 97))),
(Qb 93 true (Qv 99)),
(Qa (Qv 99) (Qm (Qn 96) (Qo (Qp (Qq (Qs true)))) (Qn 98))),
(Qb 93 true (Qv 100)),
(Qa (Qv 100) (Qd (Qn 99))),
(Qb 100 false (Qv 101)),
(Qa (Qv 101) (Qd (Qn 20))),
(Qb 93 true (Qv 102)),
(Qa (Qv 102) (Qm (Qn 100) (Qo (Qp (Qq (Qs true)))) (Qn 101))),
(Qa (Qv 103) (Qm (Qn 93) (Qn 102) (Qo (Qp (Qq (Qs false)))))),
(Qa (Qv 6) (Qd (Qn 103)))]
def f8_c19 : MC := .reg false f8_r19
def f8_c20 : MC := MC.ret
def f8_c21 : MC := .seq f8_c19 f8_c20
def f8_c22 : MC := .seq f8_c18 f8_c21
def f8_c23 : MC := .seq f8_c17 f8_c22
def f8_c24 : MC := .seq f8_c16 f8_c23
def f8_c25 : MC := .seq f8_c15 f8_c24
def f8_c26 : MC := .seq f8_c14 f8_c25
def f8_c27 : MC := .seq f8_c13 f8_c26
def f8_c28 : MC := .seq f8_c12 f8_c27
def f8_c29 : MC := .seq f8_c5 f8_c28
def f8_c30 : MC := .seq f8_c4 f8_c29
def f8_c31 : MC := .seq f8_c3 f8_c30
def f8_c32 : MC := .seq f8_c2 f8_c31
def f8_c33 : MC := .seq f8_c1 f8_c32
def f8_c34 : MC := .seq f8_c0 f8_c33
noncomputable def f8_code : Code := (Go.Proofs.Tryz.f8.body).getD .skip
theorem f8_body : Go.Proofs.Tryz.f8.body = Qv f8_code := by kernel_rfl
theorem f8_tr : trC Go.Proofs.Tryz.prog [] f8_code = Qv f8_c34 := by kernel_rfl
theorem f8_rs : rsOf Go.Proofs.Tryz.prog Go.Proofs.Tryz.f8.results.toList = Qv [(RV.t 6)] := by kernel_rfl
theorem f8_nt : Go.Proofs.Tryz.f8.ntmps = 104 := by kernel_rfl
theorem f8_ok : callable Go.Proofs.Tryz.prog 8 = true := by kernel_rfl
theorem f8_in {gp : Heap} {args : List V} {res : V} (h : G ⟨Go.Proofs.Tryz.prog, gp, 0, [(RV.t 6)], fun r c => r = res ∧ c = [], false⟩ [.code f8_c34, .fin] ⟨args ++ List.replicate (104 - args.length) .un, []⟩) : Does Go.Proofs.Tryz.prog gp 8 args res :=
  does_intro f8_ok Go.Proofs.Tryz.func8 f8_body f8_tr f8_rs (by rw [f8_nt]; exact h)
theorem f8_tri {gp : Heap} {args : List V} {pre : List Ch} {R : V → List Ch → Prop} (h : G ⟨Go.Proofs.Tryz.prog, gp, pre.length, [(RV.t 6)], R, false⟩ [.code f8_c34, .fin] ⟨args ++ List.replicate (104 - args.length) .un, pre⟩) : Tri Go.Proofs.Tryz.prog gp 8 args pre R :=
  tri_intro Go.Proofs.Tryz.func8 f8_body f8_tr f8_rs (by rw [f8_nt]; exact h)
def f16_r0 : List MO := [
(Qa (Qv 0) (Qd (Qo (Qp (Qq (Qs false))))))]
def f16_c0 : MC := .reg false f16_r0
def f16_r1 : List MO := [
(Qa (Qv 13) (MOp.bslice 1 [(Qr Qu 0)] 1 [(0, (Qo (Qp (Qq (Qr Qu 0)))))])),
(Qa (Qv 14) (MOp.build [(Qr Qu 0), (Qr Qu 0), (Qr Qu 0), (D.str (ByteArray.mk #[])), (D.sl []), (D.sl [])] [(0, (1, (Qo (Qp (Qq (Qr Qu 1)))))), (5, (1, (Qn 13)))])),
(Qa (Qv 15) (MOp.bslice 6 [(Qr Qu 0), (Qr Qu 0), (Qr Qu 0), (D.str (ByteArray.mk #[])), (D.sl []), (D.sl [])] 1 [(0, (Qn 14))])),
(Qa (Qv 16) (MOp.build [(Qr Qu 0), (D.sl [])] [(1, (1, (Qn 15)))])),
(Qa (Qv 1) (MOp.alloc [(Qr Qu 0), (D.sl [])])),
(Qa none (Ql 2 (Qn 1) (Qn 16)))]
def f16_c1 : MC := .reg false f16_r1
def f16_r2 : List MO := [
(Qa (Qv 17) (MOp.bslice 1 [(Qr Qu 0)] 1 [(0, (Qo (Qp (Qq (Qr Qu 1)))))])),
(Qa (Qv 18) (MOp.build [(Qr Qu 0), (Qr Qu 0), (Qr Qu 0), (D.str (ByteArray.mk #[])), (D.sl []), (D.sl [])] [(0, (1, (Qo (Qp (Qq (Qr Qu 1)))))), (5, (1, (Qn 17)))])),
(Qa (Qv 19) (MOp.bslice 1 [(Qr Qu 0)] 1 [(0, (Qo (Qp (Qq (Qr Qu 0)))))])),
(Qa (Qv 20) (MOp.build [(Qr Qu 0), (Qr Qu 0), (Qr Qu 0), (D.str (ByteArray.mk #[])), (D.sl []), (D.sl [])] [(0, (1, (Qo (Qp (Qq (Qr Qu 1)))))), (5, (1, (Qn 19)))])),
(Qa (Qv 21) (MOp.bslice 6 [(Qr Qu 0), (Qr Qu 0), (Qr Qu 0), (D.str (ByteArray.mk #[])), (D.sl []), (D.sl [])] 2 [(0, (Qn 18)), (1, (Qn 20))])),
(Qa (Qv 22) (MOp.build [(Qr Qu 0), (D.sl [])] [(1, (1, (Qn 21)))])),
(Qa (Qv 2) (MOp.alloc [(Qr Qu 0), (D.sl [])])),
(Qa none (Ql 2 (Qn 2) (Qn 22)))]
def f16_c2 : MC := .reg false f16_r2
def f16_r3 : List MO := [
(Qa (Qv 24) (Qf 2 true (Qn 1))),
(Qa (Qv 25) (Qf 2 true (Qn 2))),
(Qa (Qv 26) (Qh 30 [(Qn 24), (Qn 25)])),
(Qa (Qv 23) (Qd (Qn 26))),
(Qa (Qv 27) (Qi (Qn 23) 0)),
(Qa (Qv 28) (Qi (Qn 23) 1)),
(Qa (Qv 29) (Qi (Qn 23) 2)),
(Qa (Qv 3) (Qd (Qn 27))),
(Qa (Qv 4) (Qd (Qn 28))),
(Qa (Qv 5) (Qd (Qn 29)))]
def f16_c3 : MC := .reg false f16_r3
def f16_r4 : List MO := [
(Qa (Qv 31) (Qf 2 true (Qn 1))),
(Qa (Qv 32) (Qf 2 true (Qn 2))),
(Qa (Qv 33) (Qh 18 [(Qn 31), (Qn 32)])),
(Qa (Qv 30) (Qd (Qn 33))),
(Qa (Qv 34) (Qi (Qn 30) 0)),
(Qa (Qv 35) (Qi (Qn 30) 1)),
(Qa (Qv 6) (Qd (Qn 34))),
(Qa (Qv 7) (Qd (Qn 35)))]
def f16_c4 : MC := .reg false f16_r4
def f16_r5 : List MO := [
(Qa (Qv 37) (Qf 2 true (Qn 2))),
(Qa (Qv 38) (Qg 1 (Qn 2))),
(Qa (Qv 39) (Qf 1 false (Qn 38))),
(Qa (Qv 40) (MOp.build [(Qr Qu 0), (D.sl [])] [(0, (1, (Qo (Qp (Qq (Qr Qu 1)))))), (1, (1, (Qn 39)))])),
(Qa (Qv 41) (Qh 18 [(Qn 37), (Qn 40)])),
(Qa (Qv 36) (Qd (Qn 41))),
(Qa (Qv 42) (Qi (Qn 36) 0)),
(Qa (Qv 43) (Qi (Qn 36) 1)),
(Qa (Qv 8) (Qd (Qn 42))),
(Qa (Qv 9) (Qd (Qn 43)))]
def f16_c5 : MC := .reg false f16_r5
def f16_r6 : List MO := [
(Qa (Qv 45) (Qf 2 true (Qn 1))),
(Qa (Qv 46) (MOp.build [(Qr Qu 0), (D.sl [])] [])),
(Qa (Qv 47) (Qh 30 [(Qn 45), (Qn 46)])),
(Qa (Qv 44) (Qd (Qn 47))),
(Qa (Qv 48) (Qi (Qn 44) 0)),
(Qa (Qv 49) (Qi (Qn 44) 1)),
(Qa (Qv 50) (Qi (Qn 44) 2)),
(Qa (Qv 10) (Qd (Qn 48))),
(Qa (Qv 11) (Qd (Qn 49))),
(Qa (Qv 12) (Qd (Qn 50)))]
def f16_c6 : MC := .reg false f16_r6
def f16_r7 : List MO := [
(Qa (Qv 51) (Qd (Qn 3))),
(Qa (Qv 52) (MOp.build [(Qr Qu 0), (Qr Qu 0)] [])),
(Qa (Qv 53) (MOp.build [(Qr Qu 0), (Qr Qu 0)] [(1, (1, (Qo (Qp (Qq (Qr Qu 1))))))])),
(Qa (Qv 54) (MOp.bslice 2 [(Qr Qu 0), (Qr Qu 0)] 2 [(0, (Qn 52)), (1, (Qn 53))])),
(Qa (Qv 55) (Qh 31 [(Qn 51), (Qn 54)])),
(Qa (Qv 56) (Qd (Qn 55))),
(Qb 56 true (Qv 57)),
(Qa (Qv 57) (Qd (Qn 4))),
(Qa (Qv 58) (Qm (Qn 56) (Qn 57) (Qo (Qp (Qq (Qs false)))))),
(Qa (Qv 59) (Qd (Qn 58))),
(Qb 59 true (Qv 60)),
(Qa (Qv 60) (Qd (Qn 5))),
(Qb 59 true (Qv 61)),
(Qa (Qv 61) (Qe Qt Go.BinOp.eql (Qn 60) (Qo (Qp (Qq (Qr Qu 0)))))),
(Qa (Qv 62) (Qm (Qn 59) (Qn 61) (Qo (Qp (Qq (Qs false)))))),
(Qa (Qv 63) (Qd (Qn 62))),
(Qb 63 true (Qv 64)),
(Qa (Qv 64) (Qd (Qn 6))),
(Qb 63 true (Qv 65)),
(Qa (Qv 65) (MOp.not (Qn 64))),
(Qa (Qv 66) (Qm (Qn 63) (Qn 65) (Qo (Qp (Qq (Qs false)))))),
(Qa (Qv 67) (Qd (Qn 66))),
(Qb 67 true (Qv 68)),
(Qa (Qv 68) (Qd (Qn 7))),
(Qb 67 true (Qv 69)),
(Qa (Qv 69) (Qe Qt Go.BinOp.eql (Qn 68) (Qo (Qp (Qq (Qr Qu 0)))))),
(Qa (Qv 70) (Qm (Qn 67) (Qn 69) (Qo (Qp (Qq (Qs false)))))),
(Qa (Qv 71) (Qd (Qn 70))),
(Qb 71 true (Qv 72)),
(Qa (Qv 72) (Qd (Qn 8))),
(Qa (Qv 73) (Qm (Qn 71) (Qn 72) (Qo (Qp (Qq (Qs false)))))),
(Qa (Qv 74) (Qd (Qn 73))),
(Qb 74 true (Qv 75)),
(Qa (Qv 75) (Qd (Qn 9))),
(Qb 74 true (Qv 76)),
(Qa (Qv 76) (Qe Qt Go.BinOp.eql (Qn 75) (Qo (Qp (Qq (Qr Qu 0)))))),
(Qa (Qv 77) (Qm (Qn 74) (Qn 76) (Qo (Qp (Qq (Qs false)))))),
(Qa (Qv 78) (Qd (Qn 77))),
(Qb 78 true (Qv 79)),
(Qa (Qv 79) (Qd (Qn 12))),
(Qb 78 true (Qv 80)),
(Qa (Qv 80) (Qe Qt Go.BinOp.eql (Qn 79) (Qo (Qp (Qq (Qr Qu 70)))))),
(Qa (Qv 81) (Qm (Qn 78) (Qn 80) (Qo (Qp (Qq (Qs false)))))),
(Qa (Qv 0) (Qd (Qn 81)))]
def f16_c7 : MC := .reg false f16_r7
def f16_c8 : MC := MC.ret
def f16_c9 : MC := .seq f16_c7 f16_c8
def f16_c10 : MC := .seq f16_c6 f16_c9
def f16_c11 : MC := .seq f16_c5 f16_c10
def f16_c12 : MC := .seq f16_c4 f16_c11
def f16_c13 : MC := .seq f16_c3 f16_c12
def f16_c14 : MC := .seq f16_c2 f16_c13
def f16_c15 : MC := .seq f16_c1 f16_c14
def f16_c16 : MC := .seq f16_c0 f16_c15
noncomputable def f16_code : Code := (Go.Proofs.Tryz.f16.body).getD .skip
theorem f16_body : Go.Proofs.Tryz.f16.body = Qv f16_code := by kernel_rfl
theorem f16_tr : trC Go.Proofs.Tryz.prog [] f16_code = Qv f16_c16 := by kernel_rfl
theorem f16_rs : rsOf Go.Proofs.Tryz.prog Go.Proofs.Tryz.f16.results.toList = Qv [(RV.t 0)] := by kernel_rfl
theorem f16_nt : Go.Proofs.Tryz.f16.ntmps = 82 := by kernel_rfl
theorem f16_ok : callable Go.Proofs.Tryz.prog 16 = true := by kernel_rfl
theorem f16_in {gp : Heap} {args : List V} {res : V} (h : G ⟨Go.Proofs.Tryz.prog, gp, 0, [(RV.t 0)], fun r c => r = res ∧ c = [], false⟩ [.code f16_c16, .fin] ⟨args ++ List.replicate (82 - args.length) .un, []⟩) : Does Go.Proofs.Tryz.prog gp 16 args res :=
  does_intro f16_ok Go.Proofs.Tryz.func16 f16_body f16_tr f16_rs (by rw [f16_nt]; exact h)
theorem f16_tri {gp : Heap} {args : List V} {pre : List Ch} {R : V → List Ch → Prop} (h : G ⟨Go.Proofs.Tryz.prog, gp, pre.length, [(RV.t 0)], R, false⟩ [.code f16_c16, .fin] ⟨args ++ List.replicate (82 - args.length) .un, pre⟩) : Tri Go.Proofs.Tryz.prog gp 16 args pre R :=
  tri_intro Go.Proofs.Tryz.func16 f16_body f16_tr f16_rs (by rw [f16_nt]; exact h)
def f17_r0 : List MO := [
(Qa (Qv 2) (MOp.ibox (Qn 0))),
(Qa (Qv 4) (MOp.alloc [(Qr Qu 0), (D.sl [])]))]
def f17_c0 : MC := .reg false f17_r0
def f17_r1 : List MO := [
(Qa (Qv 5) (Qg 1 (Qn 2))),
(Qa (Qv 6) (Qf 1 false (Qn 5))),
(Qa (Qv 7) (Qk Qt (Qn 6))),
(Qa (Qv 8) (Qd (Qn 1))),
(Qa (Qv 9) (Qe Qt Go.BinOp.gtr (Qn 7) (Qn 8)))]
def f17_c1 : MC := .reg false f17_r1
def f17_r2 : List MO := [
(Qa (Qv 10) (MOp.build [(Qr Qu 0), (D.sl [])] [(0, (1, (Qo (Qp (Qq (Qr Qu (-1)))))))])),
(Qa none (Ql 2 (Qn 4) (Qn 10)))]
def f17_c2 : MC := .reg false f17_r2
def f17_c3 : MC := MC.ret
def f17_c4 : MC := .seq f17_c2 f17_c3
def f17_c5 : MC := MC.skip
def f17_c6 : MC := .cond (Qn 9) f17_c4 f17_c5
def f17_c7 : MC := .seq f17_c1 f17_c6
def f17_r8 : List MO := [
(Qa (Qv 11) (Qf 2 true (Qn 2))),
(Qa (Qv 12) (Qh 25 [(Qn 11)])),
(Qa none (Ql 2 (Qn 4) (Qn 12)))]
def f17_c8 : MC := .reg false f17_r8
def f17_c9 : MC := MC.ret
def f17_c10 : MC := .seq f17_c8 f17_c9
def f17_c11 : MC := .seq f17_c7 f17_c10
def f17_c12 : MC := .seq f17_c0 f17_c11
noncomputable def f17_code : Code := (Go.Proofs.Tryz.f17.body).getD .skip
theorem f17_body : Go.Proofs.Tryz.f17.body = Qv f17_code := by kernel_rfl
theorem f17_tr : trC Go.Proofs.Tryz.prog [2] f17_code = Qv f17_c12 := by kernel_rfl
theorem f17_rs : rsOf Go.Proofs.Tryz.prog Go.Proofs.Tryz.f17.results.toList = Qv [(RV.cell 4 2 true)] := by kernel_rfl
theorem f17_nt : Go.Proofs.Tryz.f17.ntmps = 13 := by kernel_rfl
theorem f17_ok : callable Go.Proofs.Tryz.prog 17 = true := by kernel_rfl
theorem f17_in {gp : Heap} {args : List V} {res : V} (h : G ⟨Go.Proofs.Tryz.prog, gp, 0, [(RV.cell 4 2 true)], fun r c => r = res ∧ c = [], false⟩ [.code f17_c12, .fin] ⟨args ++ List.replicate (13 - args.length) .un, []⟩) : Does Go.Proofs.Tryz.prog gp 17 args res :=
  does_intro f17_ok Go.Proofs.Tryz.func17 f17_body f17_tr f17_rs (by rw [f17_nt]; exact h)
theorem f17_tri {gp : Heap} {args : List V} {pre : List Ch} {R : V → List Ch → Prop} (h : G ⟨Go.Proofs.Tryz.prog, gp, pre.length, [(RV.cell 4 2 true)], R, false⟩ [.code f17_c12, .fin] ⟨args ++ List.replicate (13 - args.length) .un, pre⟩) : Tri Go.Proofs.Tryz.prog gp 17 args pre R :=
  tri_intro Go.Proofs.Tryz.func17 f17_body f17_tr f17_rs (by rw [f17_nt]; exact h)
def f18_r0 : List MO := [
(Qa (Qv 2) (MOp.ibox (Qn 0))),
(Qa (Qv 3) (MOp.ibox (Qn 1))),
(Qa (Qv 4) (Qd (Qo (Qp (Qq (Qs false)))))),
(Qa (Qv 5) (Qd (Qo (Qp (Qq (Qr Qu 0))))))]
def f18_c0 : MC := .reg false f18_r0
def f18_r1 : List MO := [
(Qa (Qv 16) (Qf 2 true (Qn 2))),
(Qa (Qv 17) (Qf 2 true (Qn 3))),
(Qa (Qv 18) (Qh 30 [(Qn 16), (Qn 17)])),
(Qa (Qv 15) (Qd (Qn 18))),
(Qa (Qv 19) (Qi (Qn 15) 0)),
(Qa (Qv 20) (Qi (Qn 15) 1)),
(Qa (Qv 21) (Qi (Qn 15) 2)),
(Qa (Qv 6) (Qd (Qn 19))),
(Qa (Qv 7) (Qd (Qn 20))),
(Qa (Qv 8) (Qd (Qn 21)))]
def f18_c1 : MC := .reg false f18_r1
def f18_r2 : List MO := [
(Qa (Qv 22) MOp.mkM),
(Qa (Qv 23) (MOp.build [(D.raw (Go.Value.map none))] [(0, (1, (Qn 22)))])),
(Qa (Qv 24) (MOp.mkMv (Go.Fn.func 32) (Qn 23))),
(Qa (Qv 25) MOp.mkM),
(Qa (Qv 26) (MOp.build [(D.raw (Go.Value.map none))] [(0, (1, (Qn 25)))])),
(Qa (Qv 27) (MOp.mkMv (Go.Fn.func 32) (Qn 26))),
(Qa (Qv 9) (Qd (Qn 24))),
(Qa (Qv 10) (Qd (Qn 27)))]
def f18_c2 : MC := .reg false f18_r2
def f18_r3 : List MO := [
(Qa (Qv 28) (Qd (Qn 6))),
(Qa (Qv 29) (Qk Qt (Qn 28))),
(Qa (Qv 30) (Qd (Qo (Qp (Qq (Qr Qu 0))))))]
def f18_c3 : MC := .reg false f18_r3
def f18_r4 : List MO := [
(Qa (Qv 31) (Qe Qt Go.BinOp.lss (Qn 30) (Qn 29)))]
def f18_c4 : MC := .reg false f18_r4
def f18_c5 : MC := MC.skip
def f18_c6 : MC := (MC.exit 0)
def f18_c7 : MC := .cond (Qn 31) f18_c5 f18_c6
def f18_r8 : List MO := [
(Qa (Qv 32) (Qj 2 (Qn 28) (Qn 30))),
(Qa (Qv 33) (Qf 2 true (Qn 32))),
(Qa (Qv 12) (MOp.alloc [(Qr Qu 0), (Qr Qu 0)])),
(Qa none (Ql 2 (Qn 12) (Qn 33)))]
def f18_c8 : MC := .reg false f18_r8
def f18_r9 : List MO := [
(Qa (Qv 34) (Qd (Qn 9))),
(Qa (Qv 35) (Qg 0 (Qn 12))),
(Qa (Qv 36) (MOp.ild 1 false (Qn 35))),
(Qa (Qv 37) (Qg 1 (Qn 12))),
(Qa (Qv 38) (MOp.ild 1 false (Qn 37))),
(Qc (Qv 39) (MOp.callv (Qn 34) [(Qn 36), (Qn 38)])),
(Qa (Qv 40) (Qd (Qn 10))),
(Qa (Qv 41) (Qg 1 (Qn 12))),
(Qa (Qv 42) (MOp.ild 1 false (Qn 41))),
(Qa (Qv 43) (Qg 0 (Qn 12))),
(Qa (Qv 44) (MOp.ild 1 false (Qn 43))),
(Qc (Qv 45) (MOp.callv (Qn 40) [(Qn 42), (Qn 44)])),
(Qa (Qv 13) (Qd (Qn 39))),
(Qa (Qv 14) (Qd (Qn 45)))]
def f18_c9 : MC := .reg true f18_r9
def f18_r10 : List MO := [
(Qa (Qv 46) (Qd (Qn 7))),
(Qa (Qv 47) (Qd (Qn 46))),
(Qb 47 true (Qv 48)),
(Qa (Qv 48) (Qd (Qn 13))),
(Qa (Qv 49) (Qm (Qn 47) (Qn 48) (Qo (Qp (Qq (Qs false)))))),
(Qa (Qv 50) (Qd (Qn 49))),
(Qb 50 true (Qv 51)),
(Qa (Qv 51) (Qd (Qn 14))),
(Qa (Qv 52) (Qm (Qn 50) (Qn 51) (Qo (Qp (Qq (Qs false)))))),
(Qa (Qv 7) (Qd (Qn 52)))]
def f18_c10 : MC := .reg false f18_r10
def f18_c11 : MC := .seq f18_c9 f18_c10
def f18_c12 : MC := .seq f18_c8 f18_c11
def f18_c13 : MC := .blk 1 f18_c12
def f18_r14 : List MO := [
(Qa (Qv 53) (Qe Qt Go.BinOp.add (Qn 30) (Qo (Qp (Qq (Qr Qu 1)))))),
(Qa (Qv 30) (Qd (Qn 53)))]
def f18_c14 : MC := .reg false f18_r14
def f18_c15 : MC := .seq f18_c13 f18_c14
def f18_c16 : MC := .seq f18_c7 f18_c15
def f18_c17 : MC := .seq f18_c4 f18_c16
def f18_c18 : MC := .loop f18_c17
def f18_c19 : MC := .blk 0 f18_c18
def f18_c20 : MC := .seq f18_c3 f18_c19
def f18_r21 : List MO := [
(Qa (Qv 54) (Qd (Qn 7))),
(Qa (Qv 55) (Qd (Qn 8))),
(Qa (Qv 4) (Qd (Qn 54))),
(Qa (Qv 5) (Qd (Qn 55)))]
def f18_c21 : MC := .reg false f18_r21
def f18_c22 : MC := MC.ret
def f18_c23 : MC := .seq f18_c21 f18_c22
def f18_c24 : MC := .seq f18_c20 f18_c23
def f18_c25 : MC := .seq f18_c2 f18_c24
def f18_c26 : MC := .seq f18_c1 f18_c25
def f18_c27 : MC := .seq f18_c0 f18_c26
noncomputable def f18_code : Code := (Go.Proofs.Tryz.f18.body).getD .skip
theorem f18_body : Go.Proofs.Tryz.f18.body = Qv f18_code := by kernel_rfl
theorem f18_tr : trC Go.Proofs.Tryz.prog [2, 3, 1012] f18_code = Qv f18_c27 := by kernel_rfl
theorem f18_rs : rsOf Go.Proofs.Tryz.prog Go.Proofs.Tryz.f18.results.toList = Qv [(RV.t 4), (RV.t 5)] := by kernel_rfl
theorem f18_nt : Go.Proofs.Tryz.f18.ntmps = 56 := by kernel_rfl
theorem f18_ok : callable Go.Proofs.Tryz.prog 18 = true := by kernel_rfl
theorem f18_in {gp : Heap} {args : List V} {res : V} (h : G ⟨Go.Proofs.Tryz.prog, gp, 0, [(RV.t 4), (RV.t 5)], fun r c => r = res ∧ c = [], false⟩ [.code f18_c27, .fin] ⟨args ++ List.replicate (56 - args.length) .un, []⟩) : Does Go.Proofs.Tryz.prog gp 18 args res :=
  does_intro f18_ok Go.Proofs.Tryz.func18 f18_body f18_tr f18_rs (by rw [f18_nt]; exact h)
theorem f18_tri {gp : Heap} {args : List V} {pre : List Ch} {R : V → List Ch → Prop} (h : G ⟨Go.Proofs.Tryz.prog, gp, pre.length, [(RV.t 4), (RV.t 5)], R, false⟩ [.code f18_c27, .fin] ⟨args ++ List.replicate (56 - args.length) .un, pre⟩) : Tri Go.Proofs.Tryz.prog gp 18 args pre R :=
  tri_intro Go.Proofs.Tryz.func18 f18_body f18_tr f18_rs (by rw [f18_nt]; exact h)
def f30_r0 : List MO := [
(Qa (Qv 2) (MOp.ibox (Qn 0))),
(Qa (Qv 3) (MOp.ibox (Qn 1))),
(Qa (Qv 4) (Qd (Qo (Qp A.nil)))),
(Qa (Qv 5) (Qd (Qo (Qp (Qq (Qs false)))))),
(Qa (Qv 6) (Qd (Qo (Qp (Qq (Qr Qu 0))))))]
def f30_c0 : MC := .reg false f30_r0
def f30_r1 : List MO := [
(Qa (Qv 13) (Qf 2 true (Qn 2))),
(Qa (Qv 14) (Qf 2 true (Qn 3))),
(Qa (Qv 15) (MOp.bslice 2 [(Qr Qu 0), (D.sl [])] 2 [(0, (Qn 13)), (1, (Qn 14))])),
(Qa (Qv 16) (Qh 48 [(Qn 15)])),
(Qa (Qv 7) (Qd (Qn 16)))]
def f30_c1 : MC := .reg false f30_r1
def f30_r2 : List MO := [
(Qa (Qv 17) (Qd (Qn 7))),
(Qa (Qv 18) (Qe Qt Go.BinOp.neq (Qn 17) (Qo (Qp (Qq (Qr Qu 0))))))]
def f30_c2 : MC := .reg false f30_r2
def f30_r3 : List MO := [
(Qa (Qv 19) (Qd (Qn 7))),
(Qa (Qv 4) (Qd (Qo (Qp A.nil)))),
(Qa (Qv 5) (Qd (Qo (Qp (Qq (Qs false)))))),
(Qa (Qv 6) (Qd (Qn 19)))]
def f30_c3 : MC := .reg false f30_r3
def f30_c4 : MC := MC.ret
def f30_c5 : MC := .seq f30_c3 f30_c4
def f30_c6 : MC := MC.skip
def f30_c7 : MC := .cond (Qn 18) f30_c5 f30_c6
def f30_c8 : MC := .seq f30_c2 f30_c7
def f30_c9 : MC := .seq f30_c1 f30_c8
def f30_r10 : List MO := [
(Qa (Qv 8) (MOp.alloc [(D.sl [])]))]
def f30_c10 : MC := .reg false f30_r10
def f30_r11 : List MO := [
(Qa (Qv 9) (MOp.alloc [D.nilI]))]
def f30_c11 : MC := .reg false f30_r11
def f30_r12 : List MO := [
(Qa (Qv 20) (Qf 2 true (Qn 2))),
(Qa (Qv 21) (Qf 2 true (Qn 3))),
(Qa (Qv 22) (MOp.build [(Qr Qu 0), (D.sl []), (Qr Qu 0), (D.sl [])] [(0, (2, (Qn 20))), (2, (2, (Qn 21)))])),
(Qa (Qv 23) MOp.mkM),
(Qa (Qv 24) (Qg 0 (Qn 2))),
(Qa (Qv 25) (Qf 1 false (Qn 24))),
(Qa (Qv 26) (Qg 0 (Qn 3))),
(Qa (Qv 27) (Qf 1 false (Qn 26))),
(Qa (Qv 28) (MOp.build [(Qr Qu 0), (Qr Qu 0)] [(0, (1, (Qn 25))), (1, (1, (Qn 27)))])),
(Qa (Qv 29) (MOp.bslO 2 [(Qr Qu 0), (Qr Qu 0)] 1 [(0, (Qn 28))])),
(Qa (Qv 30) (MOp.build [(Qr Qu 0), (D.sl []), (Qr Qu 0), (D.sl []), (D.raw (Go.Value.map none)), (D.sl [])] [(0, (4, (Qn 22))), (4, (1, (Qn 23))), (5, (1, (Qn 29)))])),
(Qa (Qv 31) (MOp.box (Qn 30))),
(Qa (Qv 10) (Qd (Qn 31)))]
def f30_c12 : MC := .reg false f30_r12
def f30_r13 : List MO := [
(Qa (Qv 32) (Qd (Qn 10))),
(Qa (Qv 33) (Qh 49 [(Qn 32)]))]
def f30_c13 : MC := .reg false f30_r13
def f30_r14 : List MO := [
(Qa (Qv 11) (MOp.alloc [(Qr Qu 0), (Qr Qu 0)])),
(Qa none (Ql 2 (Qn 11) (Qn 34)))]
def f30_c14 : MC := .reg false f30_r14
def f30_r15 : List MO := [
(Qa (Qv 12) (Qd (Qn 35)))]
def f30_c15 : MC := .reg false f30_r15
def f30_c16 : MC := .seq f30_c14 f30_c15
def f30_r17 : List MO := [
(Qa (Qv 36) (Qf 1 false (Qn 8))),
(Qa (Qv 37) (Qf 2 true (Qn 11))),
(Qa (Qv 38) (MOp.bslice 2 [(Qr Qu 0), (Qr Qu 0)] 1 [(0, (Qn 37))])),
(Qa (Qv 39) (MOp.app 2 16 (Qn 36) (Qn 38))),
(Qa (Qv 40) (Qd (Qn 12))),
(Qa none (Ql 1 (Qn 8) (Qn 39))),
(Qa none (Ql 1 (Qn 9) (Qn 40)))]
def f30_c17 : MC := .reg false f30_r17
def f30_c18 : MC := .blk 1 f30_c17
def f30_c19 : MC := .rf (Qn 33) [34, 35] f30_c16 f30_c18
def f30_c20 : MC := .blk 0 f30_c19
def f30_c21 : MC := .seq f30_c13 f30_c20
def f30_r22 : List MO := [
(Qa (Qv 41) (Qf 1 false (Qn 8))),
(Qa (Qv 42) (Qf 1 false (Qn 9))),
(Qa (Qv 43) (MOp.nilq NK.ifc false (Qn 42))),
(Qa (Qv 4) (Qd (Qn 41))),
(Qa (Qv 5) (Qd (Qn 43))),
(Qa (Qv 6) (Qd (Qo (Qp (Qq (Qr Qu 0))))))]
def f30_c22 : MC := .reg true f30_r22
def f30_c23 : MC := MC.ret
def f30_c24 : MC := .seq f30_c22 f30_c23
def f30_c25 : MC := .seq f30_c21 f30_c24
def f30_c26 : MC := .seq f30_c12 f30_c25
def f30_c27 : MC := .seq f30_c11 f30_c26
def f30_c28 : MC := .seq f30_c10 f30_c27
def f30_c29 : MC := .seq f30_c9 f30_c28
def f30_c30 : MC := .seq f30_c0 f30_c29
noncomputable def f30_code : Code := (Go.Proofs.Tryz.f30.body).getD .skip
theorem f30_body : Go.Proofs.Tryz.f30.body = Qv f30_code := by kernel_rfl
theorem f30_tr : trC Go.Proofs.Tryz.prog [2, 3, 29] f30_code = Qv f30_c30 := by kernel_rfl
theorem f30_rs : rsOf Go.Proofs.Tryz.prog Go.Proofs.Tryz.f30.results.toList = Qv [(RV.t 4), (RV.t 5), (RV.t 6)] := by kernel_rfl
theorem f30_nt : Go.Proofs.Tryz.f30.ntmps = 44 := by kernel_rfl
theorem f30_ok : callable Go.Proofs.Tryz.prog 30 = true := by kernel_rfl
theorem f30_in {gp : Heap} {args : List V} {res : V} (h : G ⟨Go.Proofs.Tryz.prog, gp, 0, [(RV.t 4), (RV.t 5), (RV.t 6)], fun r c => r = res ∧ c = [], false⟩ [.code f30_c30, .fin] ⟨args ++ List.replicate (44 - args.length) .un, []⟩) : Does Go.Proofs.Tryz.prog gp 30 args res :=
  does_intro f30_ok Go.Proofs.Tryz.func30 f30_body f30_tr f30_rs (by rw [f30_nt]; exact h)
theorem f30_tri {gp : Heap} {args : List V} {pre : List Ch} {R : V → List Ch → Prop} (h : G ⟨Go.Proofs.Tryz.prog, gp, pre.length, [(RV.t 4), (RV.t 5), (RV.t 6)], R, false⟩ [.code f30_c30, .fin] ⟨args ++ List.replicate (44 - args.length) .un, pre⟩) : Tri Go.Proofs.Tryz.prog gp 30 args pre R :=
  tri_intro Go.Proofs.Tryz.func30 f30_body f30_tr f30_rs (by rw [f30_nt]; exact h)
def f31_r0 : List MO := [
(Qa (Qv 4) (Qd (Qo (Qp (Qq (Qs false))))))]
def f31_c0 : MC := .reg false f31_r0
def f31_r1 : List MO := [
(Qa (Qv 6) (Qd (Qn 0))),
(Qa (Qv 7) (Qk Qt (Qn 6))),
(Qa (Qv 8) (Qd (Qn 1))),
(Qa (Qv 9) (Qk Qt (Qn 8))),
(Qa (Qv 10) (Qe Qt Go.BinOp.neq (Qn 7) (Qn 9)))]
def f31_c1 : MC := .reg false f31_r1
def f31_r2 : List MO := [
(Qa (Qv 4) (Qd (Qo (Qp (Qq (Qs false))))))]
def f31_c2 : MC := .reg false f31_r2
def f31_c3 : MC := MC.ret
def f31_c4 : MC := .seq f31_c2 f31_c3
def f31_c5 : MC := MC.skip
def f31_c6 : MC := .cond (Qn 10) f31_c4 f31_c5
def f31_c7 : MC := .seq f31_c1 f31_c6
def f31_r8 : List MO := [
(Qa (Qv 5) (Qd (Qo (Qp (Qq (Qr Qu 0))))))]
def f31_c8 : MC := .reg false f31_r8
def f31_r9 : List MO := [
(Qa (Qv 11) (Qd (Qn 5))),
(Qa (Qv 12) (Qd (Qn 0))),
(Qa (Qv 13) (Qk Qt (Qn 12))),
(Qa (Qv 14) (Qe Qt Go.BinOp.lss (Qn 11) (Qn 13)))]
def f31_c9 : MC := .reg false f31_r9
def f31_c10 : MC := MC.skip
def f31_c11 : MC := (MC.exit 0)
def f31_c12 : MC := .cond (Qn 14) f31_c10 f31_c11
def f31_c13 : MC := .seq f31_c9 f31_c12
def f31_r14 : List MO := [
(Qa (Qv 17) (Qd (Qn 0))),
(Qa (Qv 18) (Qd (Qn 5))),
(Qa (Qv 19) (Qj 2 (Qn 17) (Qn 18))),
(Qa (Qv 20) (Qf 2 true (Qn 19))),
(Qa (Qv 21) (Qd (Qn 1))),
(Qa (Qv 22) (Qd (Qn 5))),
(Qa (Qv 23) (Qj 2 (Qn 21) (Qn 22))),
(Qa (Qv 24) (Qf 2 true (Qn 23))),
(Qa (Qv 25) (MOp.eqs true [Qt, Qt] (Qn 20) (Qn 24)))]
def f31_c14 : MC := .reg true f31_r14
def f31_r15 : List MO := [
(Qa (Qv 4) (Qd (Qo (Qp (Qq (Qs false))))))]
def f31_c15 : MC := .reg false f31_r15
def f31_c16 : MC := MC.ret
def f31_c17 : MC := .seq f31_c15 f31_c16
def f31_c18 : MC := MC.skip
def f31_c19 : MC := .cond (Qn 25) f31_c17 f31_c18
def f31_c20 : MC := .seq f31_c14 f31_c19
def f31_c21 : MC := .blk 1 f31_c20
def f31_r22 : List MO := [
(Qa (Qv 15) (Qd (Qn 5))),
(Qa (Qv 16) (Qe Qt Go.BinOp.add (Qn 15) (Qo (Qp (Qq (Qr Qu 1)))))),
(Qa (Qv 5) (Qd (Qn 16)))]
def f31_c22 : MC := .reg false f31_r22
def f31_c23 : MC := .seq f31_c21 f31_c22
def f31_c24 : MC := .seq f31_c13 f31_c23
def f31_c25 : MC := .loop f31_c24
def f31_c26 : MC := .blk 0 f31_c25
def f31_c27 : MC := .seq f31_c8 f31_c26
def f31_r28 : List MO := [
(Qa (Qv 4) (Qd (Qo (Qp (Qq (Qs true))))))]
def f31_c28 : MC := .reg false f31_r28
def f31_c29 : MC := MC.ret
def f31_c30 : MC := .seq f31_c28 f31_c29
def f31_c31 : MC := .seq f31_c27 f31_c30
def f31_c32 : MC := .seq f31_c7 f31_c31
def f31_c33 : MC := .seq f31_c0 f31_c32
noncomputable def f31_code : Code := (Go.Proofs.Tryz.f31.body).getD .skip
theorem f31_body : Go.Proofs.Tryz.f31.body = Qv f31_code := by kernel_rfl
theorem f31_tr : trC Go.Proofs.Tryz.prog [] f31_code = Qv f31_c33 := by kernel_rfl
theorem f31_rs : rsOf Go.Proofs.Tryz.prog Go.Proofs.Tryz.f31.results.toList = Qv [(RV.t 4)] := by kernel_rfl
theorem f31_nt : Go.Proofs.Tryz.f31.ntmps = 26 := by kernel_rfl
theorem f31_ok : callable Go.Proofs.Tryz.prog 31 = true := by kernel_rfl
theorem f31_in {gp : Heap} {args : List V} {res : V} (h : G ⟨Go.Proofs.Tryz.prog, gp, 0, [(RV.t 4)], fun r c => r = res ∧ c = [], false⟩ [.code f31_c33, .fin] ⟨args ++ List.replicate (26 - args.length) .un, []⟩) : Does Go.Proofs.Tryz.prog gp 31 args res :=
  does_intro f31_ok Go.Proofs.Tryz.func31 f31_body f31_tr f31_rs (by rw [f31_nt]; exact h)
theorem f31_tri {gp : Heap} {args : List V} {pre : List Ch} {R : V → List Ch → Prop} (h : G ⟨Go.Proofs.Tryz.prog, gp, pre.length, [(RV.t 4)], R, false⟩ [.code f31_c33, .fin] ⟨args ++ List.replicate (26 - args.length) .un, pre⟩) : Tri Go.Proofs.Tryz.prog gp 31 args pre R :=
  tri_intro Go.Proofs.Tryz.func31 f31_body f31_tr f31_rs (by rw [f31_nt]; exact h)
def f32_r0 : List MO := [
(Qa (Qv 3) (MOp.box (Qn 0))),
(Qa (Qv 6) (Qd (Qo (Qp (Qq (Qs false))))))]
def f32_c0 : MC := .reg false f32_r0
def f32_r1 : List MO := [
(Qa (Qv 10) (Qg 0 (Qn 3))),
(Qa (Qv 11) (Qf 1 false (Qn 10))),
(Qa (Qv 12) (Qd (Qn 1))),
(Qa (Qv 13) (MOp.lkp true (Qp (Qq (Qr Qu 0))) false [Qt] (Qn 11) (Qn 12))),
(Qa (Qv 9) (Qd (Qn 13))),
(Qa (Qv 14) (Qi (Qn 9) 0)),
(Qa (Qv 15) (Qi (Qn 9) 1)),
(Qa (Qv 7) (Qd (Qn 14))),
(Qa (Qv 8) (Qd (Qn 15)))]
def f32_c1 : MC := .reg false f32_r1
def f32_r2 : List MO := [
(Qa (Qv 16) (Qg 0 (Qn 3))),
(Qa (Qv 17) (Qf 1 false (Qn 16))),
(Qa (Qv 18) (Qd (Qn 1))),
(Qa (Qv 19) (Qd (Qn 2))),
(Qa none (MOp.mupd false [Qt] (Qn 17) (Qn 18) (Qn 19)))]
def f32_c2 : MC := .reg false f32_r2
def f32_r3 : List MO := [
(Qa (Qv 20) (Qd (Qn 8))),
(Qa (Qv 21) (MOp.not (Qn 20))),
(Qa (Qv 22) (Qd (Qn 21))),
(Qb 22 false (Qv 23)),
(Qa (Qv 23) (Qd (Qn 7))),
(Qb 22 false (Qv 24)),
(Qa (Qv 24) (Qd (Qn 2))),
(Qb 22 false (Qv 25)),
(Qa (Qv 25) (Qe Qt Go.BinOp.eql (Qn 23) (Qn 24))),
(Qa (Qv 26) (Qm (Qn 22) (Qo (Qp (Qq (Qs true)))) (Qn 25))),
(Qa (Qv 6) (Qd (Qn 26)))]
def f32_c3 : MC := .reg false f32_r3
def f32_c4 : MC := MC.ret
def f32_c5 : MC := .seq f32_c3 f32_c4
def f32_c6 : MC := .seq f32_c2 f32_c5
def f32_c7 : MC := .seq f32_c1 f32_c6
def f32_c8 : MC := .seq f32_c0 f32_c7
noncomputable def f32_code : Code := (Go.Proofs.Tryz.f32.body).getD .skip
theorem f32_body : Go.Proofs.Tryz.f32.body = Qv f32_code := by kernel_rfl
theorem f32_tr : trC Go.Proofs.Tryz.prog [] f32_code = Qv f32_c8 := by kernel_rfl
theorem f32_rs : rsOf Go.Proofs.Tryz.prog Go.Proofs.Tryz.f32.results.toList = Qv [(RV.t 6)] := by kernel_rfl
theorem f32_nt : Go.Proofs.Tryz.f32.ntmps = 27 := by kernel_rfl
theorem f32_ok : callable Go.Proofs.Tryz.prog 32 = true := by kernel_rfl
theorem f32_in {gp : Heap} {args : List V} {res : V} (h : G ⟨Go.Proofs.Tryz.prog, gp, 0, [(RV.t 6)], fun r c => r = res ∧ c = [], false⟩ [.code f32_c8, .fin] ⟨args ++ List.replicate (27 - args.length) .un, []⟩) : Does Go.Proofs.Tryz.prog gp 32 args res :=
  does_intro f32_ok Go.Proofs.Tryz.func32 f32_body f32_tr f32_rs (by rw [f32_nt]; exact h)
theorem f32_tri {gp : Heap} {args : List V} {pre : List Ch} {R : V → List Ch → Prop} (h : G ⟨Go.Proofs.Tryz.prog, gp, pre.length, [(RV.t 6)], R, false⟩ [.code f32_c8, .fin] ⟨args ++ List.replicate (27 - args.length) .un, pre⟩) : Tri Go.Proofs.Tryz.prog gp 32 args pre R :=
  tri_intro Go.Proofs.Tryz.func32 f32_body f32_tr f32_rs (by rw [f32_nt]; exact h)
def f48_r0 : List MO := [
(Qa (Qv 2) (Qd (Qo (Qp (Qq (Qr Qu 0))))))]
def f48_c0 : MC := .reg false f48_r0
def f48_r1 : List MO := [
(Qa (Qv 7) (Qd (Qn 0))),
(Qa (Qv 8) (Qk Qt (Qn 7))),
(Qa (Qv 9) (Qd (Qo (Qp (Qq (Qr Qu 0))))))]
def f48_c1 : MC := .reg false f48_r1
def f48_r2 : List MO := [
(Qa (Qv 10) (Qe Qt Go.BinOp.lss (Qn 9) (Qn 8)))]
def f48_c2 : MC := .reg false f48_r2
def f48_c3 : MC := MC.skip
def f48_c4 : MC := (MC.exit 0)
def f48_c5 : MC := .cond (Qn 10) f48_c3 f48_c4
def f48_r6 : List MO := [
(Qa (Qv 11) (Qj 2 (Qn 7) (Qn 9))),
(Qa (Qv 12) (Qf 2 true (Qn 11))),
(Qa (Qv 4) (MOp.alloc [(Qr Qu 0), (D.sl [])])),
(Qa none (Ql 2 (Qn 4) (Qn 12)))]
def f48_c6 : MC := .reg false f48_r6
def f48_r7 : List MO := [
(Qa (Qv 14) (Qf 2 true (Qn 4))),
(Qa (Qv 15) (Qh 33 [(Qn 14)])),
(Qa (Qv 13) (Qd (Qn 15))),
(Qa (Qv 16) (Qi (Qn 13) 0)),
(Qa (Qv 17) (Qi (Qn 13) 1)),
(Qa (Qv 5) (Qd (Qn 16))),
(Qa (Qv 6) (Qd (Qn 17)))]
def f48_c7 : MC := .reg false f48_r7
def f48_r8 : List MO := [
(Qa (Qv 18) (Qd (Qn 6))),
(Qa (Qv 19) (Qe Qt Go.BinOp.neq (Qn 18) (Qo (Qp (Qq (Qr Qu 0))))))]
def f48_c8 : MC := .reg false f48_r8
def f48_r9 : List MO := [
(Qa (Qv 20) (Qd (Qn 6))),
(Qa (Qv 2) (Qd (Qn 20)))]
def f48_c9 : MC := .reg false f48_r9
def f48_c10 : MC := MC.ret
def f48_c11 : MC := .seq f48_c9 f48_c10
def f48_c12 : MC := MC.skip
def f48_c13 : MC := .cond (Qn 19) f48_c11 f48_c12
def f48_c14 : MC := .seq f48_c8 f48_c13
def f48_c15 : MC := .seq f48_c7 f48_c14
def f48_c16 : MC := .seq f48_c6 f48_c15
def f48_c17 : MC := .blk 1 f48_c16
def f48_r18 : List MO := [
(Qa (Qv 21) (Qe Qt Go.BinOp.add (Qn 9) (Qo (Qp (Qq (Qr Qu 1)))))),
(Qa (Qv 9) (Qd (Qn 21)))]
def f48_c18 : MC := .reg false f48_r18
def f48_c19 : MC := .seq f48_c17 f48_c18
def f48_c20 : MC := .seq f48_c5 f48_c19
def f48_c21 : MC := .seq f48_c2 f48_c20
def f48_c22 : MC := .loop f48_c21
def f48_c23 : MC := .blk 0 f48_c22
def f48_c24 : MC := .seq f48_c1 f48_c23
def f48_r25 : List MO := [
(Qa (Qv 2) (Qd (Qo (Qp (Qq (Qr Qu 0))))))]
def f48_c25 : MC := .reg false f48_r25
def f48_c26 : MC := MC.ret
def f48_c27 : MC := .seq f48_c25 f48_c26
def f48_c28 : MC := .seq f48_c24 f48_c27
def f48_c29 : MC := .seq f48_c0 f48_c28
noncomputable def f48_code : Code := (Go.Proofs.Tryz.f48.body).getD .skip
theorem f48_body : Go.Proofs.Tryz.f48.body = Qv f48_code := by kernel_rfl
theorem f48_tr : trC Go.Proofs.Tryz.prog [] f48_code = Qv f48_c29 := by kernel_rfl
theorem f48_rs : rsOf Go.Proofs.Tryz.prog Go.Proofs.Tryz.f48.results.toList = Qv [(RV.t 2)] := by kernel_rfl
theorem f48_nt : Go.Proofs.Tryz.f48.ntmps = 22 := by kernel_rfl
theorem f48_ok : callable Go.Proofs.Tryz.prog 48 = true := by kernel_rfl
theorem f48_in {gp : Heap} {args : List V} {res : V} (h : G ⟨Go.Proofs.Tryz.prog, gp, 0, [(RV.t 2)], fun r c => r = res ∧ c = [], false⟩ [.code f48_c29, .fin] ⟨args ++ List.replicate (22 - args.length) .un, []⟩) : Does Go.Proofs.Tryz.prog gp 48 args res :=
  does_intro f48_ok Go.Proofs.Tryz.func48 f48_body f48_tr f48_rs (by rw [f48_nt]; exact h)
theorem f48_tri {gp : Heap} {args : List V} {pre : List Ch} {R : V → List Ch → Prop} (h : G ⟨Go.Proofs.Tryz.prog, gp, pre.length, [(RV.t 2)], R, false⟩ [.code f48_c29, .fin] ⟨args ++ List.replicate (22 - args.length) .un, pre⟩) : Tri Go.Proofs.Tryz.prog gp 48 args pre R :=
  tri_intro Go.Proofs.Tryz.func48 f48_body f48_tr f48_rs (by rw [f48_nt]; exact h)
def f49_r0 : List MO := [
(Qa (Qv 1) (MOp.box (Qn 0))),
(Qa (Qv 2) (Qd (Qo (Qp (Qq D.nilF)))))]
def f49_c0 : MC := .reg false f49_r0
def f49_r1 : List MO := [
(Qa (Qv 3) (MOp.mkF (Go.Fn.func 60) [(Qn 1)])),
(Qa (Qv 2) (Qd (Qn 3)))]
def f49_c1 : MC := .reg false f49_r1
def f49_c2 : MC := MC.ret
def f49_c3 : MC := .seq f49_c1 f49_c2
def f49_c4 : MC := .seq f49_c0 f49_c3
noncomputable def f49_code : Code := (Go.Proofs.Tryz.f49.body).getD .skip
theorem f49_body : Go.Proofs.Tryz.f49.body = Qv f49_code := by kernel_rfl
theorem f49_tr : trC Go.Proofs.Tryz.prog [] f49_code = Qv f49_c4 := by kernel_rfl
theorem f49_rs : rsOf Go.Proofs.Tryz.prog Go.Proofs.Tryz.f49.results.toList = Qv [(RV.t 2)] := by kernel_rfl
theorem f49_nt : Go.Proofs.Tryz.f49.ntmps = 4 := by kernel_rfl
theorem f49_ok : callable Go.Proofs.Tryz.prog 49 = true := by kernel_rfl
theorem f49_in {gp : Heap} {args : List V} {res : V} (h : G ⟨Go.Proofs.Tryz.prog, gp, 0, [(RV.t 2)], fun r c => r = res ∧ c = [], false⟩ [.code f49_c4, .fin] ⟨args ++ List.replicate (4 - args.length) .un, []⟩) : Does Go.Proofs.Tryz.prog gp 49 args res :=
  does_intro f49_ok Go.Proofs.Tryz.func49 f49_body f49_tr f49_rs (by rw [f49_nt]; exact h)
theorem f49_tri {gp : Heap} {args : List V} {pre : List Ch} {R : V → List Ch → Prop} (h : G ⟨Go.Proofs.Tryz.prog, gp, pre.length, [(RV.t 2)], R, false⟩ [.code f49_c4, .fin] ⟨args ++ List.replicate (4 - args.length) .un, pre⟩) : Tri Go.Proofs.Tryz.prog gp 49 args pre R :=
  tri_intro Go.Proofs.Tryz.func49 f49_body f49_tr f49_rs (by rw [f49_nt]; exact h)
def f60_c0 : MC := MC.skip
def f60_r1 : List MO := [
(Qa (Qv 6) (Qf 1 false (Qn 1))),
(Qa (Qv 7) (MOp.nck (Qn 6))),
(Qa (Qv 8) (Qg 5 (Qn 7))),
(Qa (Qv 9) (Qf 1 false (Qn 8))),
(Qa (Qv 10) (Qk Qt (Qn 9))),
(Qa (Qv 11) (Qe Qt Go.BinOp.gtr (Qn 10) (Qo (Qp (Qq (Qr Qu 0))))))]
def f60_c1 : MC := .reg false f60_r1
def f60_c2 : MC := MC.skip
def f60_c3 : MC := (MC.exit 0)
def f60_c4 : MC := .cond (Qn 11) f60_c2 f60_c3
def f60_c5 : MC := .seq f60_c1 f60_c4
def f60_r6 : List MO := [
(Qa (Qv 12) (Qf 1 false (Qn 1))),
(Qa (Qv 13) (MOp.nck (Qn 12))),
(Qa (Qv 14) (Qg 5 (Qn 13))),
(Qa (Qv 15) (Qf 1 false (Qn 14))),
(Qa (Qv 16) (Qk Qt (Qn 15))),
(Qa (Qv 17) (Qe Qt Go.BinOp.sub (Qn 16) (Qo (Qp (Qq (Qr Qu 1)))))),
(Qa (Qv 3) (Qd (Qn 17)))]
def f60_c6 : MC := .reg false f60_r6
def f60_r7 : List MO := [
(Qa (Qv 18) (Qf 1 false (Qn 1))),
(Qa (Qv 19) (MOp.nck (Qn 18))),
(Qa (Qv 20) (Qg 5 (Qn 19))),
(Qa (Qv 21) (Qf 1 false (Qn 20))),
(Qa (Qv 22) (Qd (Qn 3))),
(Qa (Qv 23) (Qj 2 (Qn 21) (Qn 22))),
(Qa (Qv 24) (Qf 2 true (Qn 23))),
(Qa (Qv 4) (MOp.alloc [(Qr Qu 0), (Qr Qu 0)])),
(Qa none (Ql 2 (Qn 4) (Qn 24)))]
def f60_c7 : MC := .reg false f60_r7
def f60_r8 : List MO := [
(Qa (Qv 25) (MOp.cld 1 false (Qn 1))),
(Qa (Qv 26) (MOp.cld 1 false (Qn 1))),
(Qa (Qv 27) (MOp.nck (Qn 26))),
(Qa (Qv 28) (Qg 5 (Qn 27))),
(Qa (Qv 29) (MOp.cld 1 false (Qn 28))),
(Qa (Qv 30) (Qd (Qn 3))),
(Qa (Qv 31) (MOp.slcR 2 (Qn 29) none (Qv (Qn 30)))),
(Qa (Qv 32) (MOp.nck (Qn 25))),
(Qa (Qv 33) (Qg 5 (Qn 32))),
(Qa none (Ql 1 (Qn 33) (Qn 31)))]
def f60_c8 : MC := .reg true f60_r8
def f60_r9 : List MO := [
(Qa (Qv 34) (MOp.cld 1 false (Qn 1))),
(Qa (Qv 35) (MOp.nck (Qn 34))),
(Qa (Qv 36) (Qg 4 (Qn 35))),
(Qa (Qv 37) (MOp.cld 1 false (Qn 36))),
(Qa (Qv 38) (MOp.cld 2 true (Qn 4))),
(Qa (Qv 39) (MOp.lkp false (Qp (Qq (Qs false))) true [Qt, Qt] (Qn 37) (Qn 38)))]
def f60_c9 : MC := .reg true f60_r9
def f60_c10 : MC := (MC.exit 1)
def f60_c11 : MC := MC.skip
def f60_c12 : MC := .cond (Qn 39) f60_c10 f60_c11
def f60_c13 : MC := .seq f60_c9 f60_c12
def f60_r14 : List MO := [
(Qa (Qv 40) (MOp.cld 1 false (Qn 1))),
(Qa (Qv 41) (MOp.nck (Qn 40))),
(Qa (Qv 42) (Qg 4 (Qn 41))),
(Qa (Qv 43) (MOp.cld 1 false (Qn 42))),
(Qa (Qv 44) (MOp.cld 2 true (Qn 4))),
(Qa none (MOp.mupd true [Qt, Qt] (Qn 43) (Qn 44) (Qo (Qp (Qq (Qs true))))))]
def f60_c14 : MC := .reg true f60_r14
def f60_r15 : List MO := [
(Qa (Qv 45) (MOp.cld 1 false (Qn 1))),
(Qa (Qv 46) (MOp.nck (Qn 45))),
(Qa (Qv 47) (Qg 0 (Qn 46))),
(Qa (Qv 48) (MOp.cld 4 true (Qn 47))),
(Qa (Qv 49) (MOp.cld 2 true (Qn 4))),
(Qc (Qv 50) (Qh 61 [(Qn 48), (Qn 49)])),
(Qa (Qv 5) (Qd (Qn 50)))]
def f60_c15 : MC := .reg true f60_r15
def f60_r16 : List MO := [
(Qa (Qv 51) (Qd (Qn 0))),
(Qa (Qv 52) (Qf 2 true (Qn 4))),
(Qa (Qv 53) (Qd (Qn 5))),
(Qa (Qv 54) (MOp.callv (Qn 51) [(Qn 52), (Qn 53)])),
(Qa (Qv 55) (MOp.not (Qn 54))),
(Qa (Qv 56) (Qd (Qn 55))),
(Qb 56 false (Qv 57)),
(Qa (Qv 57) (Qd (Qn 5))),
(Qb 56 false (Qv 58)),
(Qa (Qv 58) (Qf 1 false (Qo (Qp (Qq (D.raw (Go.Value.pointer (Qv (Go.Addr.mk 0 0 none))))))))),
(Qb 56 false (Qv 59)),
(Qa (Qv 59) (Qh 62 [(Qn 57), (Qn 58)])),
(Qa (Qv 60) (Qm (Qn 56) (Qo (Qp (Qq (Qs true)))) (Qn 59)))]
def f60_c16 : MC := .reg false f60_r16
def f60_c17 : MC := (MC.exit 0)
def f60_c18 : MC := MC.skip
def f60_c19 : MC := .cond (Qn 60) f60_c17 f60_c18
def f60_c20 : MC := .seq f60_c16 f60_c19
def f60_r21 : List MO := [
(Qa (Qv 61) (MOp.cld 1 false (Qn 1))),
(Qa (Qv 62) (MOp.cld 1 false (Qn 1))),
(Qa (Qv 63) (MOp.nck (Qn 62))),
(Qa (Qv 64) (Qg 0 (Qn 63))),
(Qa (Qv 65) (MOp.cld 4 true (Qn 64))),
(Qa (Qv 66) (MOp.cld 2 true (Qn 4))),
(Qa (Qv 67) (Qh 64 [(Qn 65), (Qn 66)])),
(Qc (Qv 68) (Qh 63 [(Qn 61), (Qn 67)]))]
def f60_c21 : MC := .reg true f60_r21
def f60_c22 : MC := .seq f60_c20 f60_c21
def f60_c23 : MC := .seq f60_c15 f60_c22
def f60_c24 : MC := .seq f60_c14 f60_c23
def f60_c25 : MC := .seq f60_c13 f60_c24
def f60_c26 : MC := .seq f60_c8 f60_c25
def f60_c27 : MC := .seq f60_c7 f60_c26
def f60_c28 : MC := .seq f60_c6 f60_c27
def f60_c29 : MC := .blk 1 f60_c28
def f60_c30 : MC := .seq f60_c5 f60_c29
def f60_c31 : MC := .loop f60_c30
def f60_c32 : MC := .blk 0 f60_c31
def f60_c33 : MC := .seq f60_c0 f60_c32
def f60_c34 : MC := .scope f60_c33
noncomputable def f60_code : Code := (Go.Proofs.Tryz.f60.body).getD .skip
theorem f60_body : Go.Proofs.Tryz.f60.body = Qv f60_code := by kernel_rfl
theorem f60_tr : trC Go.Proofs.Tryz.prog [2000] f60_code = Qv f60_c34 := by kernel_rfl
theorem f60_rs : rsOf Go.Proofs.Tryz.prog Go.Proofs.Tryz.f60.results.toList = Qv [] := by kernel_rfl
theorem f60_nt : Go.Proofs.Tryz.f60.ntmps = 69 := by kernel_rfl
theorem f60_ok : callable Go.Proofs.Tryz.prog 60 = true := by kernel_rfl
theorem f60_in {gp : Heap} {args : List V} {res : V} (h : G ⟨Go.Proofs.Tryz.prog, gp, 0, [], fun r c => r = res ∧ c = [], false⟩ [.code f60_c34, .fin] ⟨args ++ List.replicate (69 - args.length) .un, []⟩) : Does Go.Proofs.Tryz.prog gp 60 args res :=
  does_intro f60_ok Go.Proofs.Tryz.func60 f60_body f60_tr f60_rs (by rw [f60_nt]; exact h)
theorem f60_tri {gp : Heap} {args : List V} {pre : List Ch} {R : V → List Ch → Prop} (h : G ⟨Go.Proofs.Tryz.prog, gp, pre.length, [], R, false⟩ [.code f60_c34, .fin] ⟨args ++ List.replicate (69 - args.length) .un, pre⟩) : Tri Go.Proofs.Tryz.prog gp 60 args pre R :=
  tri_intro Go.Proofs.Tryz.func60 f60_body f60_tr f60_rs (by rw [f60_nt]; exact h)
def f61_r0 : List MO := [
(Qa (Qv 2) (MOp.ibox (Qn 0))),
(Qa (Qv 3) (MOp.ibox (Qn 1))),
(Qa (Qv 4) (Qd (Qo (Qp (Qq D.nilI)))))]
def f61_c0 : MC := .reg false f61_r0
def f61_r1 : List MO := [
(Qa (Qv 11) (Qg 0 (Qn 2))),
(Qa (Qv 12) (Qg 1 (Qn 11))),
(Qa (Qv 13) (MOp.ild 1 false (Qn 12))),
(Qa (Qv 14) (Qg 0 (Qn 3))),
(Qa (Qv 15) (MOp.ild 1 false (Qn 14))),
(Qa (Qv 16) (MOp.iadD 6 (Qn 13) (Qn 15))),
(Qa (Qv 17) (MOp.ild 6 true (Qn 16))),
(Qa (Qv 18) (Qg 2 (Qn 2))),
(Qa (Qv 19) (Qg 1 (Qn 18))),
(Qa (Qv 20) (MOp.ild 1 false (Qn 19))),
(Qa (Qv 21) (Qg 1 (Qn 3))),
(Qa (Qv 22) (MOp.ild 1 false (Qn 21))),
(Qa (Qv 23) (MOp.iadD 6 (Qn 20) (Qn 22))),
(Qa (Qv 24) (MOp.ild 6 true (Qn 23))),
(Qa (Qv 5) (MOp.ibox (Qn 17))),
(Qa (Qv 6) (MOp.ibox (Qn 24))),
(Qa none (MOp.holes [(5, 6), (6, 6)]))]
def f61_c1 : MC := .regv f61_r1
def f61_r2 : List MO := [
(Qa (Qv 26) (Qg 0 (Qn 2))),
(Qa (Qv 27) (Qf 2 true (Qn 26))),
(Qa (Qv 28) (Qg 0 (Qn 3))),
(Qa (Qv 29) (Qf 1 false (Qn 28))),
(Qa (Qv 30) (Qh 39 [(Qn 27), (Qn 29)])),
(Qa (Qv 25) (Qd (Qn 30))),
(Qa (Qv 31) (Qi (Qn 25) 0)),
(Qa (Qv 32) (Qi (Qn 25) 1)),
(Qa (Qv 7) (Qd (Qn 31))),
(Qa (Qv 8) (Qd (Qn 32)))]
def f61_c2 : MC := .reg false f61_r2
def f61_r3 : List MO := [
(Qa (Qv 34) (Qg 2 (Qn 2))),
(Qa (Qv 35) (Qf 2 true (Qn 34))),
(Qa (Qv 36) (Qg 1 (Qn 3))),
(Qa (Qv 37) (Qf 1 false (Qn 36))),
(Qa (Qv 38) (Qh 39 [(Qn 35), (Qn 37)])),
(Qa (Qv 33) (Qd (Qn 38))),
(Qa (Qv 39) (Qi (Qn 33) 0)),
(Qa (Qv 40) (Qi (Qn 33) 1)),
(Qa (Qv 9) (Qd (Qn 39))),
(Qa (Qv 10) (Qd (Qn 40)))]
def f61_c3 : MC := .reg false f61_r3
def f61_r4 : List MO := [
(Qa (Qv 41) (Qg 0 (Qn 5))),
(Qa (Qv 42) (Qf 1 false (Qn 41))),
(Qa (Qv 43) (Qg 0 (Qn 6))),
(Qa (Qv 44) (Qf 1 false (Qn 43))),
(Qa (Qv 45) (Qe Qt Go.BinOp.neq (Qn 42) (Qn 44))),
(Qa (Qv 46) (Qd (Qn 45))),
(Qb 46 false (Qv 47)),
(Qa (Qv 47) (Qg 1 (Qn 5))),
(Qb 46 false (Qv 48)),
(Qa (Qv 48) (Qf 3 true (Qn 47))),
(Qb 46 false (Qv 49)),
(Qa (Qv 49) (Qg 1 (Qn 6))),
(Qb 46 false (Qv 50)),
(Qa (Qv 50) (Qf 3 true (Qn 49))),
(Qb 46 false (Qv 51)),
(Qa (Qv 51) (MOp.eqs true [Qt, Qt, Leaf.s] (Qn 48) (Qn 50))),
(Qa (Qv 52) (Qm (Qn 46) (Qo (Qp (Qq (Qs true)))) (Qn 51))),
(Qa (Qv 53) (Qd (Qn 52))),
(Qb 53 false (Qv 54)),
(Qa (Qv 54) (Qd (Qn 7))),
(Qb 53 false (Qv 55)),
(Qa (Qv 55) (Qd (Qn 9))),
(Qb 53 false (Qv 56)),
(Qa (Qv 56) (Qh 42 [(Qn 54), (Qn 55)])),
(Qb 53 false (Qv 57)),
(Qa (Qv 57) (MOp.not (Qn 56))),
(Qa (Qv 58) (Qm (Qn 53) (Qo (Qp (Qq (Qs true)))) (Qn 57))),
(Qa (Qv 59) (Qd (Qn 58))),
(Qb 59 false (Qv 60)),
(Qa (Qv 60) (Qg 5 (Qn 5))),
(Qb 59 false (Qv 61)),
(Qa (Qv 61) (Qf 1 false (Qn 60))),
(Qb 59 false (Qv 62)),
(Qa (Qv 62) (Qk Qt (Qn 61))),
(Qb 59 false (Qv 63)),
(Qa (Qv 63) (Qg 5 (Qn 6))),
(Qb 59 false (Qv 64)),
(Qa (Qv 64) (Qf 1 false (Qn 63))),
(Qb 59 false (Qv 65)),
(Qa (Qv 65) (Qk Qt (Qn 64))),
(Qb 59 false (Qv 66)),
(Qa (Qv 66) (Qe Qt Go.BinOp.neq (Qn 62) (Qn 65))),
(Qa (Qv 67) (Qm (Qn 59) (Qo (Qp (Qq (Qs true)))) (Qn 66)))]
def f61_c4 : MC := .reg false f61_r4
def f61_r5 : List MO := [
(Qa (Qv 68) (Qf 1 false (Qo (Qp (Qq (D.raw (Go.Value.pointer (Qv (Go.Addr.mk 0 0 none))))))))),
(Qa (Qv 4) (Qd (Qn 68)))]
def f61_c5 : MC := .reg false f61_r5
def f61_c6 : MC := MC.ret
def f61_c7 : MC := .seq f61_c5 f61_c6
def f61_c8 : MC := MC.skip
def f61_c9 : MC := .cond (Qn 67) f61_c7 f61_c8
def f61_c10 : MC := .seq f61_c4 f61_c9
def f61_r11 : List MO := [
(Qa (Qv 4) (Qd (Qo (Qp (Qq D.nilI)))))]
def f61_c11 : MC := .reg false f61_r11
def f61_c12 : MC := MC.ret
def f61_c13 : MC := .seq f61_c11 f61_c12
def f61_c14 : MC := .seq f61_c10 f61_c13
def f61_c15 : MC := .seq f61_c3 f61_c14
def f61_c16 : MC := .seq f61_c2 f61_c15
def f61_c17 : MC := .seq f61_c1 f61_c16
def f61_c18 : MC := .seq f61_c0 f61_c17
noncomputable def f61_code : Code := (Go.Proofs.Tryz.f61.body).getD .skip
theorem f61_body : Go.Proofs.Tryz.f61.body = Qv f61_code := by kernel_rfl
theorem f61_tr : trC Go.Proofs.Tryz.prog [2, 3, 1002, 1003] f61_code = Qv f61_c18 := by kernel_rfl
theorem f61_rs : rsOf Go.Proofs.Tryz.prog Go.Proofs.Tryz.f61.results.toList = Qv [(RV.t 4)] := by kernel_rfl
theorem f61_nt : Go.Proofs.Tryz.f61.ntmps = 69 := by kernel_rfl
theorem f61_ok : callable Go.Proofs.Tryz.prog 61 = true := by kernel_rfl
theorem f61_in {gp : Heap} {args : List V} {res : V} (h : G ⟨Go.Proofs.Tryz.prog, gp, 0, [(RV.t 4)], fun r c => r = res ∧ c = [], false⟩ [.code f61_c18, .fin] ⟨args ++ List.replicate (69 - args.length) .un, []⟩) : Does Go.Proofs.Tryz.prog gp 61 args res :=
  does_intro f61_ok Go.Proofs.Tryz.func61 f61_body f61_tr f61_rs (by rw [f61_nt]; exact h)
theorem f61_tri {gp : Heap} {args : List V} {pre : List Ch} {R : V → List Ch → Prop} (h : G ⟨Go.Proofs.Tryz.prog, gp, pre.length, [(RV.t 4)], R, false⟩ [.code f61_c18, .fin] ⟨args ++ List.replicate (69 - args.length) .un, pre⟩) : Tri Go.Proofs.Tryz.prog gp 61 args pre R :=
  tri_intro Go.Proofs.Tryz.func61 f61_body f61_tr f61_rs (by rw [f61_nt]; exact h)
-- f62: trC none
def f63_r0 : List MO := [
(Qa (Qv 2) (MOp.box (Qn 0)))]
def f63_c0 : MC := .reg false f63_r0
def f63_r1 : List MO := [
(Qa (Qv 6) (Qd (Qn 1))),
(Qa (Qv 7) (Qh 78 [(Qn 6)]))]
def f63_c1 : MC := .reg false f63_r1
def f63_r2 : List MO := [
(Qa (Qv 5) (MOp.alloc [(Qr Qu 0), (Qr Qu 0)])),
(Qa none (Ql 2 (Qn 5) (Qn 9)))]
def f63_c2 : MC := .reg false f63_r2
def f63_r3 : List MO := [
(Qa (Qv 10) (MOp.cld 1 false (Qn 2))),
(Qa (Qv 11) (MOp.cld 1 false (Qn 2))),
(Qa (Qv 12) (MOp.nck (Qn 11))),
(Qa (Qv 13) (Qg 5 (Qn 12))),
(Qa (Qv 14) (MOp.cld 1 false (Qn 13))),
(Qa (Qv 15) (MOp.cld 2 true (Qn 5))),
(Qa (Qv 16) (MOp.bslice 2 [(Qr Qu 0), (Qr Qu 0)] 1 [(0, (Qn 15))])),
(Qa (Qv 17) (MOp.app 2 16 (Qn 14) (Qn 16))),
(Qa (Qv 18) (MOp.nck (Qn 10))),
(Qa (Qv 19) (Qg 5 (Qn 18))),
(Qa none (Ql 1 (Qn 19) (Qn 17)))]
def f63_c3 : MC := .reg true f63_r3
def f63_c4 : MC := .blk 1 f63_c3
def f63_c5 : MC := .rf (Qn 7) [8, 9] f63_c2 f63_c4
def f63_c6 : MC := .blk 0 f63_c5
def f63_c7 : MC := .seq f63_c1 f63_c6
def f63_c8 : MC := .seq f63_c0 f63_c7
noncomputable def f63_code : Code := (Go.Proofs.Tryz.f63.body).getD .skip
theorem f63_body : Go.Proofs.Tryz.f63.body = Qv f63_code := by kernel_rfl
theorem f63_tr : trC Go.Proofs.Tryz.prog [2000] f63_code = Qv f63_c8 := by kernel_rfl
theorem f63_rs : rsOf Go.Proofs.Tryz.prog Go.Proofs.Tryz.f63.results.toList = Qv [] := by kernel_rfl
theorem f63_nt : Go.Proofs.Tryz.f63.ntmps = 20 := by kernel_rfl
theorem f63_ok : callable Go.Proofs.Tryz.prog 63 = true := by kernel_rfl
theorem f63_in {gp : Heap} {args : List V} {res : V} (h : G ⟨Go.Proofs.Tryz.prog, gp, 0, [], fun r c => r = res ∧ c = [], false⟩ [.code f63_c8, .fin] ⟨args ++ List.replicate (20 - args.length) .un, []⟩) : Does Go.Proofs.Tryz.prog gp 63 args res :=
  does_intro f63_ok Go.Proofs.Tryz.func63 f63_body f63_tr f63_rs (by rw [f63_nt]; exact h)
theorem f63_tri {gp : Heap} {args : List V} {pre : List Ch} {R : V → List Ch → Prop} (h : G ⟨Go.Proofs.Tryz.prog, gp, pre.length, [], R, false⟩ [.code f63_c8, .fin] ⟨args ++ List.replicate (20 - args.length) .un, pre⟩) : Tri Go.Proofs.Tryz.prog gp 63 args pre R :=
  tri_intro Go.Proofs.Tryz.func63 f63_body f63_tr f63_rs (by rw [f63_nt]; exact h)
def f64_r0 : List MO := [
(Qa (Qv 2) (MOp.ibox (Qn 0))),
(Qa (Qv 3) (MOp.ibox (Qn 1))),
(Qa (Qv 4) (Qd (Qo (Qp A.nil))))]
def f64_c0 : MC := .reg false f64_r0
def f64_r1 : List MO := [
(Qa (Qv 12) (Qg 0 (Qn 2))),
(Qa (Qv 13) (Qf 2 true (Qn 12))),
(Qa (Qv 14) (Qg 0 (Qn 3))),
(Qa (Qv 15) (Qf 1 false (Qn 14))),
(Qa (Qv 16) (Qh 34 [(Qn 13), (Qn 15)])),
(Qa (Qv 11) (Qd (Qn 16))),
(Qa (Qv 17) (Qi (Qn 11) 0)),
(Qa (Qv 18) (Qi (Qn 11) 1)),
(Qa (Qv 5) (Qd (Qn 17))),
(Qa (Qv 6) (Qd (Qn 18)))]
def f64_c1 : MC := .reg false f64_r1
def f64_r2 : List MO := [
(Qa (Qv 20) (Qg 2 (Qn 2))),
(Qa (Qv 21) (Qf 2 true (Qn 20))),
(Qa (Qv 22) (Qg 1 (Qn 3))),
(Qa (Qv 23) (Qf 1 false (Qn 22))),
(Qa (Qv 24) (Qh 34 [(Qn 21), (Qn 23)])),
(Qa (Qv 19) (Qd (Qn 24))),
(Qa (Qv 25) (Qi (Qn 19) 0)),
(Qa (Qv 26) (Qi (Qn 19) 1)),
(Qa (Qv 7) (Qd (Qn 25))),
(Qa (Qv 8) (Qd (Qn 26)))]
def f64_c2 : MC := .reg false f64_r2
def f64_r3 : List MO := [
(Qa (Qv 9) (Qd (Qo (Qp A.nil))))]
def f64_c3 : MC := .reg false f64_r3
def f64_r4 : List MO := [
(Qa (Qv 27) (Qd (Qn 5))),
(Qa (Qv 28) (Qk Qt (Qn 27))),
(Qa (Qv 29) (Qd (Qo (Qp (Qq (Qr Qu 0))))))]
def f64_c4 : MC := .reg false f64_r4
def f64_r5 : List MO := [
(Qa (Qv 30) (Qe Qt Go.BinOp.lss (Qn 29) (Qn 28)))]
def f64_c5 : MC := .reg false f64_r5
def f64_c6 : MC := MC.skip
def f64_c7 : MC := (MC.exit 0)
def f64_c8 : MC := .cond (Qn 30) f64_c6 f64_c7
def f64_r9 : List MO := [
(Qa (Qv 31) (Qd (Qn 29))),
(Qa (Qv 10) (Qd (Qn 31)))]
def f64_c9 : MC := .reg false f64_r9
def f64_r10 : List MO := [
(Qa (Qv 32) (Qd (Qn 9))),
(Qa (Qv 33) (Qd (Qn 5))),
(Qa (Qv 34) (Qd (Qn 10))),
(Qa (Qv 35) (Qj 1 (Qn 33) (Qn 34))),
(Qa (Qv 36) (Qf 1 false (Qn 35))),
(Qa (Qv 37) (Qd (Qn 7))),
(Qa (Qv 38) (Qd (Qn 10))),
(Qa (Qv 39) (Qj 1 (Qn 37) (Qn 38))),
(Qa (Qv 40) (Qf 1 false (Qn 39))),
(Qa (Qv 41) (MOp.build [(Qr Qu 0), (Qr Qu 0)] [(0, (1, (Qn 36))), (1, (1, (Qn 40)))])),
(Qa (Qv 42) (MOp.bslice 2 [(Qr Qu 0), (Qr Qu 0)] 1 [(0, (Qn 41))])),
(Qa (Qv 43) (MOp.app 2 16 (Qn 32) (Qn 42))),
(Qa (Qv 9) (Qd (Qn 43)))]
def f64_c10 : MC := .reg true f64_r10
def f64_c11 : MC := .seq f64_c9 f64_c10
def f64_c12 : MC := .blk 1 f64_c11
def f64_r13 : List MO := [
(Qa (Qv 44) (Qe Qt Go.BinOp.add (Qn 29) (Qo (Qp (Qq (Qr Qu 1)))))),
(Qa (Qv 29) (Qd (Qn 44)))]
def f64_c13 : MC := .reg false f64_r13
def f64_c14 : MC := .seq f64_c12 f64_c13
def f64_c15 : MC := .seq f64_c8 f64_c14
def f64_c16 : MC := .seq f64_c5 f64_c15
def f64_c17 : MC := .loop f64_c16
def f64_c18 : MC := .blk 0 f64_c17
def f64_c19 : MC := .seq f64_c4 f64_c18
def f64_r20 : List MO := [
(Qa (Qv 45) (Qd (Qn 9))),
(Qa (Qv 4) (Qd (Qn 45)))]
def f64_c20 : MC := .reg false f64_r20
def f64_c21 : MC := MC.ret
def f64_c22 : MC := .seq f64_c20 f64_c21
def f64_c23 : MC := .seq f64_c19 f64_c22
def f64_c24 : MC := .seq f64_c3 f64_c23
def f64_c25 : MC := .seq f64_c2 f64_c24
def f64_c26 : MC := .seq f64_c1 f64_c25
def f64_c27 : MC := .seq f64_c0 f64_c26
noncomputable def f64_code : Code := (Go.Proofs.Tryz.f64.body).getD .skip
theorem f64_body : Go.Proofs.Tryz.f64.body = Qv f64_code := by kernel_rfl
theorem f64_tr : trC Go.Proofs.Tryz.prog [2, 3] f64_code = Qv f64_c27 := by kernel_rfl
theorem f64_rs : rsOf Go.Proofs.Tryz.prog Go.Proofs.Tryz.f64.results.toList = Qv [(RV.t 4)] := by kernel_rfl
theorem f64_nt : Go.Proofs.Tryz.f64.ntmps = 46 := by kernel_rfl
theorem f64_ok : callable Go.Proofs.Tryz.prog 64 = true := by kernel_rfl
theorem f64_in {gp : Heap} {args : List V} {res : V} (h : G ⟨Go.Proofs.Tryz.prog, gp, 0, [(RV.t 4)], fun r c => r = res ∧ c = [], false⟩ [.code f64_c27, .fin] ⟨args ++ List.replicate (46 - args.length) .un, []⟩) : Does Go.Proofs.Tryz.prog gp 64 args res :=
  does_intro f64_ok Go.Proofs.Tryz.func64 f64_body f64_tr f64_rs (by rw [f64_nt]; exact h)
theorem f64_tri {gp : Heap} {args : List V} {pre : List Ch} {R : V → List Ch → Prop} (h : G ⟨Go.Proofs.Tryz.prog, gp, pre.length, [(RV.t 4)], R, false⟩ [.code f64_c27, .fin] ⟨args ++ List.replicate (46 - args.length) .un, pre⟩) : Tri Go.Proofs.Tryz.prog gp 64 args pre R :=
  tri_intro Go.Proofs.Tryz.func64 f64_body f64_tr f64_rs (by rw [f64_nt]; exact h)
-- f65: trC none
def f78_r0 : List MO := [
(Qa (Qv 1) (MOp.ibox (Qn 0))),
(Qa (Qv 2) (Qd (Qo (Qp (Qq D.nilF)))))]
def f78_c0 : MC := .reg false f78_r0
def f78_r1 : List MO := [
(Qa (Qv 3) (MOp.mkF (Go.Fn.func 91) [(Qn 1)])),
(Qa (Qv 2) (Qd (Qn 3)))]
def f78_c1 : MC := .reg false f78_r1
def f78_c2 : MC := MC.ret
def f78_c3 : MC := .seq f78_c1 f78_c2
def f78_c4 : MC := .seq f78_c0 f78_c3
noncomputable def f78_code : Code := (Go.Proofs.Tryz.f78.body).getD .skip
theorem f78_body : Go.Proofs.Tryz.f78.body = Qv f78_code := by kernel_rfl
theorem f78_tr : trC Go.Proofs.Tryz.prog [1] f78_code = Qv f78_c4 := by kernel_rfl
theorem f78_rs : rsOf Go.Proofs.Tryz.prog Go.Proofs.Tryz.f78.results.toList = Qv [(RV.t 2)] := by kernel_rfl
theorem f78_nt : Go.Proofs.Tryz.f78.ntmps = 4 := by kernel_rfl
theorem f78_ok : callable Go.Proofs.Tryz.prog 78 = true := by kernel_rfl
theorem f78_in {gp : Heap} {args : List V} {res : V} (h : G ⟨Go.Proofs.Tryz.prog, gp, 0, [(RV.t 2)], fun r c => r = res ∧ c = [], false⟩ [.code f78_c4, .fin] ⟨args ++ List.replicate (4 - args.length) .un, []⟩) : Does Go.Proofs.Tryz.prog gp 78 args res :=
  does_intro f78_ok Go.Proofs.Tryz.func78 f78_body f78_tr f78_rs (by rw [f78_nt]; exact h)
theorem f78_tri {gp : Heap} {args : List V} {pre : List Ch} {R : V → List Ch → Prop} (h : G ⟨Go.Proofs.Tryz.prog, gp, pre.length, [(RV.t 2)], R, false⟩ [.code f78_c4, .fin] ⟨args ++ List.replicate (4 - args.length) .un, pre⟩) : Tri Go.Proofs.Tryz.prog gp 78 args pre R :=
  tri_intro Go.Proofs.Tryz.func78 f78_body f78_tr f78_rs (by rw [f78_nt]; exact h)
-- f79: no body
-- f80: no body
-- f81: no body
-- f82: trC none
def f91_r0 : List MO := [
(Qa (Qv 4) (Qf 1 false (Qn 1))),
(Qa (Qv 5) (Qk Qt (Qn 4))),
(Qa (Qv 6) (Qe Qt Go.BinOp.sub (Qn 5) (Qo (Qp (Qq (Qr Qu 1)))))),
(Qa (Qv 3) (Qd (Qn 6)))]
def f91_c0 : MC := .reg false f91_r0
def f91_r1 : List MO := [
(Qa (Qv 7) (Qd (Qn 3))),
(Qa (Qv 8) (Qe Qt Go.BinOp.geq (Qn 7) (Qo (Qp (Qq (Qr Qu 0))))))]
def f91_c1 : MC := .reg false f91_r1
def f91_c2 : MC := MC.skip
def f91_c3 : MC := (MC.exit 0)
def f91_c4 : MC := .cond (Qn 8) f91_c2 f91_c3
def f91_c5 : MC := .seq f91_c1 f91_c4
def f91_r6 : List MO := [
(Qa (Qv 11) (Qd (Qn 0))),
(Qa (Qv 12) (Qd (Qn 3))),
(Qa (Qv 13) (Qf 1 false (Qn 1))),
(Qa (Qv 14) (Qd (Qn 3))),
(Qa (Qv 15) (Qj 2 (Qn 13) (Qn 14))),
(Qa (Qv 16) (Qf 2 true (Qn 15))),
(Qa (Qv 17) (MOp.callv (Qn 11) [(Qn 12), (Qn 16)])),
(Qa (Qv 18) (MOp.not (Qn 17)))]
def f91_c6 : MC := .reg false f91_r6
def f91_c7 : MC := MC.ret
def f91_c8 : MC := MC.skip
def f91_c9 : MC := .cond (Qn 18) f91_c7 f91_c8
def f91_c10 : MC := .seq f91_c6 f91_c9
def f91_c11 : MC := .blk 1 f91_c10
def f91_r12 : List MO := [
(Qa (Qv 9) (Qd (Qn 3))),
(Qa (Qv 10) (Qe Qt Go.BinOp.sub (Qn 9) (Qo (Qp (Qq (Qr Qu 1)))))),
(Qa (Qv 3) (Qd (Qn 10)))]
def f91_c12 : MC := .reg false f91_r12
def f91_c13 : MC := .seq f91_c11 f91_c12
def f91_c14 : MC := .seq f91_c5 f91_c13
def f91_c15 : MC := .loop f91_c14
def f91_c16 : MC := .blk 0 f91_c15
def f91_c17 : MC := .seq f91_c0 f91_c16
noncomputable def f91_code : Code := (Go.Proofs.Tryz.f91.body).getD .skip
theorem f91_body : Go.Proofs.Tryz.f91.body = Qv f91_code := by kernel_rfl
theorem f91_tr : trC Go.Proofs.Tryz.prog [] f91_code = Qv f91_c17 := by kernel_rfl
theorem f91_rs : rsOf Go.Proofs.Tryz.prog Go.Proofs.Tryz.f91.results.toList = Qv [] := by kernel_rfl
theorem f91_nt : Go.Proofs.Tryz.f91.ntmps = 19 := by kernel_rfl
theorem f91_ok : callable Go.Proofs.Tryz.prog 91 = true := by kernel_rfl
theorem f91_in {gp : Heap} {args : List V} {res : V} (h : G ⟨Go.Proofs.Tryz.prog, gp, 0, [], fun r c => r = res ∧ c = [], false⟩ [.code f91_c17, .fin] ⟨args ++ List.replicate (19 - args.length) .un, []⟩) : Does Go.Proofs.Tryz.prog gp 91 args res :=
  does_intro f91_ok Go.Proofs.Tryz.func91 f91_body f91_tr f91_rs (by rw [f91_nt]; exact h)
theorem f91_tri {gp : Heap} {args : List V} {pre : List Ch} {R : V → List Ch → Prop} (h : G ⟨Go.Proofs.Tryz.prog, gp, pre.length, [], R, false⟩ [.code f91_c17, .fin] ⟨args ++ List.replicate (19 - args.length) .un, pre⟩) : Tri Go.Proofs.Tryz.prog gp 91 args pre R :=
  tri_intro Go.Proofs.Tryz.func91 f91_body f91_tr f91_rs (by rw [f91_nt]; exact h)
-- f92: no body
-- f93: no body
end Go.Fw.L07
