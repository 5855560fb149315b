/- Small codes. -/
import Derived.Test.YtphdiiaiclfjgaaDoorFd
import Derived.Test.YtphdiiaiclfjgaaDoorProg
set_option linter.all false
namespace Go.Fw.L07
open Go Go.Fw
open Go.Fw.MO renaming op → Qa, chk → Qb
open Go.Fw.MOp renaming mv → Qc, bin → Qd, load → Qe, fad → Qf, call → Qg, ext → Qh, iad → Qi, len → Qj, store → Qk, pick → Ql
open Go.Fw.Opd renaming t → Qm, c → Qn
open Go.Fw.V renaming one → Qo
open Go.Fw.A renaming d → Qp
open Go.Fw.D renaming int → Qq, bool → Qr
open Go.Fw.Leaf renaming i → Qs
open Go.IntKind renaming i64 → Qt
open Option renaming some → Qu
/-! sigillary/sigillarylaw08.ReachTidy -/
def f3_r0 : List MO := [
(Qa (Qu 1) (MOp.box (Qm 0))),
(Qa (Qu 2) (Qc (Qn (Qo (Qp (Qr false))))))]
def f3_c0 : MC := .reg false f3_r0
def f3_r1 : List MO := [
(Qa (Qu 12) (Qg 9 [])),
(Qa (Qu 3) (Qc (Qm 12)))]
def f3_c1 : MC := .reg false f3_r1
def f3_r2 : List MO := [
(Qa (Qu 13) (Qe 2 true (Qm 1))),
(Qa (Qu 14) (Qg 10 [(Qm 13)])),
(Qa none (Qk 2 (Qm 1) (Qm 14)))]
def f3_c2 : MC := .reg false f3_r2
def f3_r3 : List MO := [
(Qa (Qu 16) (Qe 2 true (Qm 1))),
(Qa (Qu 17) (Qg 11 [(Qm 16)])),
(Qa (Qu 15) (Qc (Qm 17))),
(Qa (Qu 18) (Qh (Qm 15) 0)),
(Qa (Qu 19) (Qh (Qm 15) 1)),
(Qa (Qu 4) (MOp.alloc [(Qq Qt 0), (D.sl [])])),
(Qa none (Qk 2 (Qm 4) (Qm 18))),
(Qa (Qu 5) (Qc (Qm 19)))]
def f3_c3 : MC := .reg false f3_r3
def f3_r4 : List MO := [
(Qa (Qu 21) (Qe 2 true (Qm 1))),
(Qa (Qu 22) (Qg 12 [(Qm 21)])),
(Qa (Qu 20) (Qc (Qm 22))),
(Qa (Qu 23) (Qh (Qm 20) 0)),
(Qa (Qu 24) (Qh (Qm 20) 1)),
(Qa (Qu 6) (Qc (Qm 23))),
(Qa (Qu 7) (Qc (Qm 24)))]
def f3_c4 : MC := .reg false f3_r4
def f3_r5 : List MO := [
(Qa (Qu 26) (Qe 2 true (Qm 1))),
(Qa (Qu 27) (Qg 13 [(Qm 26)])),
(Qa (Qu 25) (Qc (Qm 27))),
(Qa (Qu 28) (Qh (Qm 25) 0)),
(Qa (Qu 29) (Qh (Qm 25) 1)),
(Qa (Qu 8) (Qc (Qm 28))),
(Qa (Qu 9) (Qc (Qm 29)))]
def f3_c5 : MC := .reg false f3_r5
def f3_r6 : List MO := [
(Qa (Qu 30) (Qc (Qm 5))),
(Qa (Qu 31) (Qd Qs Go.BinOp.neq (Qm 30) (Qn (Qo (Qp (Qq Qt 0))))))]
def f3_c6 : MC := .reg false f3_r6
def f3_r7 : List MO := [
(Qa (Qu 32) (Qc (Qm 3))),
(Qa (Qu 33) (Qc (Qm 32))),
(Qb 33 true (Qu 34)),
(Qa (Qu 34) (Qc (Qm 7))),
(Qb 33 true (Qu 35)),
(Qa (Qu 35) (Qc (Qm 5))),
(Qb 33 true (Qu 36)),
(Qa (Qu 36) (Qd Qs Go.BinOp.eql (Qm 34) (Qm 35))),
(Qa (Qu 37) (Ql (Qm 33) (Qm 36) (Qn (Qo (Qp (Qr false)))))),
(Qa (Qu 38) (Qc (Qm 37))),
(Qb 38 true (Qu 39)),
(Qa (Qu 39) (Qc (Qm 9))),
(Qb 38 true (Qu 40)),
(Qa (Qu 40) (Qc (Qm 5))),
(Qb 38 true (Qu 41)),
(Qa (Qu 41) (Qd Qs Go.BinOp.eql (Qm 39) (Qm 40))),
(Qa (Qu 42) (Ql (Qm 38) (Qm 41) (Qn (Qo (Qp (Qr false)))))),
(Qa (Qu 43) (Qc (Qm 42))),
(Qb 43 true (Qu 44)),
(Qa (Qu 44) (Qc (Qm 6))),
(Qb 43 true (Qu 45)),
(Qa (Qu 45) (Qj Qs (Qm 44))),
(Qb 43 true (Qu 46)),
(Qa (Qu 46) (Qd Qs Go.BinOp.eql (Qm 45) (Qn (Qo (Qp (Qq Qt 0)))))),
(Qa (Qu 47) (Ql (Qm 43) (Qm 46) (Qn (Qo (Qp (Qr false)))))),
(Qa (Qu 48) (Qc (Qm 47))),
(Qb 48 true (Qu 49)),
(Qa (Qu 49) (Qf 1 (Qm 4))),
(Qb 48 true (Qu 50)),
(Qa (Qu 50) (Qe 1 false (Qm 49))),
(Qb 48 true (Qu 51)),
(Qa (Qu 51) (Qj Qs (Qm 50))),
(Qb 48 true (Qu 52)),
(Qa (Qu 52) (Qd Qs Go.BinOp.eql (Qm 51) (Qn (Qo (Qp (Qq Qt 0)))))),
(Qa (Qu 53) (Ql (Qm 48) (Qm 52) (Qn (Qo (Qp (Qr false)))))),
(Qa (Qu 2) (Qc (Qm 53)))]
def f3_c7 : MC := .reg false f3_r7
def f3_c8 : MC := MC.ret
def f3_c9 : MC := .seq f3_c7 f3_c8
def f3_c10 : MC := MC.skip
def f3_c11 : MC := .cond (Qm 31) f3_c9 f3_c10
def f3_c12 : MC := .seq f3_c6 f3_c11
def f3_r13 : List MO := [
(Qa (Qu 55) (Qe 2 true (Qm 4))),
(Qa (Qu 56) (Qg 11 [(Qm 55)])),
(Qa (Qu 54) (Qc (Qm 56))),
(Qa (Qu 57) (Qh (Qm 54) 0)),
(Qa (Qu 58) (Qh (Qm 54) 1)),
(Qa (Qu 10) (MOp.alloc [(Qq Qt 0), (D.sl [])])),
(Qa none (Qk 2 (Qm 10) (Qm 57))),
(Qa (Qu 11) (Qc (Qm 58)))]
def f3_c13 : MC := .reg false f3_r13
def f3_r14 : List MO := [
(Qa (Qu 59) (Qc (Qm 3))),
(Qa (Qu 60) (Qc (Qm 59))),
(Qb 60 true (Qu 61)),
(Qa (Qu 61) (Qc (Qm 7))),
(Qb 60 true (Qu 62)),
(Qa (Qu 62) (Qd Qs Go.BinOp.eql (Qm 61) (Qn (Qo (Qp (Qq Qt 0)))))),
(Qa (Qu 63) (Ql (Qm 60) (Qm 62) (Qn (Qo (Qp (Qr false)))))),
(Qa (Qu 64) (Qc (Qm 63))),
(Qb 64 true (Qu 65)),
(Qa (Qu 65) (Qc (Qm 9))),
(Qb 64 true (Qu 66)),
(Qa (Qu 66) (Qd Qs Go.BinOp.eql (Qm 65) (Qn (Qo (Qp (Qq Qt 0)))))),
(Qa (Qu 67) (Ql (Qm 64) (Qm 66) (Qn (Qo (Qp (Qr false)))))),
(Qa (Qu 68) (Qc (Qm 67))),
(Qb 68 true (Qu 69)),
(Qa (Qu 69) (Qe 2 true (Qm 4))),
(Qb 68 true (Qu 70)),
(Qa (Qu 70) (Qg 14 [(Qm 69)])),
(Qa (Qu 71) (Ql (Qm 68) (Qm 70) (Qn (Qo (Qp (Qr false)))))),
(Qa (Qu 72) (Qc (Qm 71))),
(Qb 72 true (Qu 73)),
(Qa (Qu 73) (Qc (Qm 11))),
(Qb 72 true (Qu 74)),
(Qa (Qu 74) (Qd Qs Go.BinOp.eql (Qm 73) (Qn (Qo (Qp (Qq Qt 0)))))),
(Qa (Qu 75) (Ql (Qm 72) (Qm 74) (Qn (Qo (Qp (Qr false)))))),
(Qa (Qu 76) (Qc (Qm 75))),
(Qb 76 true (Qu 77)),
(Qa (Qu 77) (Qe 2 true (Qm 4))),
(Qb 76 true (Qu 78)),
(Qa (Qu 78) (Qe 2 true (Qm 10))),
(Qb 76 true (Qu 79)),
(Qa (Qu 79) (Qg 15 [(Qm 77), (Qm 78)])),
(Qa (Qu 80) (Ql (Qm 76) (Qm 79) (Qn (Qo (Qp (Qr false)))))),
(Qa (Qu 81) (Qc (Qm 80))),
(Qb 81 true (Qu 82)),
(Qa (Qu 82) (Qc (Qm 6))),
(Qb 81 true (Qu 83)),
(Qa (Qu 83) (Qj Qs (Qm 82))),
(Qb 81 true (Qu 84)),
(Qa (Qu 84) (Qf 1 (Qm 4))),
(Qb 81 true (Qu 85)),
(Qa (Qu 85) (Qe 1 false (Qm 84))),
(Qb 81 true (Qu 86)),
(Qa (Qu 86) (Qj Qs (Qm 85))),
(Qb 81 true (Qu 87)),
(Qa (Qu 87) (Qd Qs Go.BinOp.eql (Qm 83) (Qm 86))),
(Qa (Qu 88) (Ql (Qm 81) (Qm 87) (Qn (Qo (Qp (Qr false)))))),
(Qa (Qu 89) (Qc (Qm 88))),
(Qb 89 true (Qu 90)),
(Qa (Qu 90) (Qe 2 true (Qm 1))),
(Qb 89 true (Qu 91)),
(Qa (Qu 91) (Qg 14 [(Qm 90)])),
(Qb 89 true (Qu 92)),
(Qa (Qu 92) (Qe 2 true (Qm 1))),
(Qb 89 true (Qu 93)),
(Qa (Qu 93) (Qe 2 true (Qm 4))),
(Qb 89 true (Qu 94)),
(Qa (Qu 94) (Qg 15 [(Qm 92), (Qm 93)])),
(Qb 89 true (Qu 95)),
(Qa (Qu 95) (Qd Leaf.b Go.BinOp.eql (Qm 91) (Qm 94))),
(Qa (Qu 96) (Ql (Qm 89) (Qm 95) (Qn (Qo (Qp (Qr false)))))),
(Qa (Qu 2) (Qc (Qm 96)))]
def f3_c14 : MC := .reg true f3_r14
def f3_c15 : MC := MC.ret
def f3_c16 : MC := .seq f3_c14 f3_c15
def f3_c17 : MC := .seq f3_c13 f3_c16
def f3_c18 : MC := .seq f3_c12 f3_c17
def f3_c19 : MC := .seq f3_c5 f3_c18
def f3_c20 : MC := .seq f3_c4 f3_c19
def f3_c21 : MC := .seq f3_c3 f3_c20
def f3_c22 : MC := .seq f3_c2 f3_c21
def f3_c23 : MC := .seq f3_c1 f3_c22
def f3_c24 : MC := .seq f3_c0 f3_c23
noncomputable def f3_code : Code := (Go.Proofs.Tryd.f3.body).getD .skip
theorem f3_body : Go.Proofs.Tryd.f3.body = Qu f3_code := by kernel_rfl
theorem f3_tr : trC Go.Proofs.Tryd.prog [] f3_code = Qu f3_c24 := by kernel_rfl
theorem f3_rs : rsOf Go.Proofs.Tryd.prog Go.Proofs.Tryd.f3.results.toList = Qu [(RV.t 2)] := by kernel_rfl
theorem f3_nt : Go.Proofs.Tryd.f3.ntmps = 97 := by kernel_rfl
theorem f3_ok : callable Go.Proofs.Tryd.prog 3 = true := by kernel_rfl
theorem f3_in {gp : Heap} {args : List V} {res : V} (h : G ⟨Go.Proofs.Tryd.prog, gp, 0, [(RV.t 2)], fun r c => r = res ∧ c = [], false⟩ [.code f3_c24, .fin] ⟨args ++ List.replicate (97 - args.length) .un, []⟩) : Does Go.Proofs.Tryd.prog gp 3 args res :=
  does_intro f3_ok Go.Proofs.Tryd.func3 f3_body f3_tr f3_rs (by rw [f3_nt]; exact h)
theorem f3_tri {gp : Heap} {args : List V} {pre : List Ch} {R : V → List Ch → Prop} (h : G ⟨Go.Proofs.Tryd.prog, gp, pre.length, [(RV.t 2)], R, false⟩ [.code f3_c24, .fin] ⟨args ++ List.replicate (97 - args.length) .un, pre⟩) : Tri Go.Proofs.Tryd.prog gp 3 args pre R :=
  tri_intro Go.Proofs.Tryd.func3 f3_body f3_tr f3_rs (by rw [f3_nt]; exact h)

/-! sigillary/sigillarylaw08.ReachPaths -/
def f4_r0 : List MO := [
(Qa (Qu 2) (MOp.box (Qm 0))),
(Qa (Qu 4) (Qc (Qn (Qo (Qp (Qr false))))))]
def f4_c0 : MC := .reg false f4_r0
def f4_r1 : List MO := [
(Qa (Qu 16) (Qg 9 [])),
(Qa (Qu 5) (Qc (Qm 16)))]
def f4_c1 : MC := .reg false f4_r1
def f4_r2 : List MO := [
(Qa (Qu 17) (Qe 2 true (Qm 2))),
(Qa (Qu 18) (Qg 10 [(Qm 17)])),
(Qa none (Qk 2 (Qm 2) (Qm 18)))]
def f4_c2 : MC := .reg false f4_r2
def f4_r3 : List MO := [
(Qa (Qu 19) (Qc (Qm 1))),
(Qa (Qu 20) (Qg 16 [(Qm 19)])),
(Qa (Qu 1) (Qc (Qm 20)))]
def f4_c3 : MC := .reg false f4_r3
def f4_r4 : List MO := [
(Qa (Qu 22) (Qe 2 true (Qm 2))),
(Qa (Qu 23) (Qg 11 [(Qm 22)])),
(Qa (Qu 21) (Qc (Qm 23))),
(Qa (Qu 24) (Qh (Qm 21) 0)),
(Qa (Qu 25) (Qh (Qm 21) 1)),
(Qa (Qu 6) (MOp.alloc [(Qq Qt 0), (D.sl [])])),
(Qa none (Qk 2 (Qm 6) (Qm 24))),
(Qa (Qu 7) (Qc (Qm 25)))]
def f4_c4 : MC := .reg false f4_r4
def f4_r5 : List MO := [
(Qa (Qu 27) (Qe 2 true (Qm 2))),
(Qa (Qu 28) (Qc (Qm 1))),
(Qa (Qu 29) (Qg 17 [(Qm 27), (Qm 28)])),
(Qa (Qu 26) (Qc (Qm 29))),
(Qa (Qu 30) (Qh (Qm 26) 0)),
(Qa (Qu 31) (Qh (Qm 26) 1)),
(Qa (Qu 8) (Qc (Qm 30))),
(Qa (Qu 9) (Qc (Qm 31)))]
def f4_c5 : MC := .reg false f4_r5
def f4_r6 : List MO := [
(Qa (Qu 33) (Qe 2 true (Qm 6))),
(Qa (Qu 34) (Qc (Qm 1))),
(Qa (Qu 35) (Qg 17 [(Qm 33), (Qm 34)])),
(Qa (Qu 32) (Qc (Qm 35))),
(Qa (Qu 36) (Qh (Qm 32) 0)),
(Qa (Qu 37) (Qh (Qm 32) 1)),
(Qa (Qu 10) (Qc (Qm 36))),
(Qa (Qu 11) (Qc (Qm 37)))]
def f4_c6 : MC := .reg false f4_r6
def f4_r7 : List MO := [
(Qa (Qu 38) (Qc (Qm 7))),
(Qa (Qu 39) (Qd Qs Go.BinOp.neq (Qm 38) (Qn (Qo (Qp (Qq Qt 0)))))),
(Qa (Qu 40) (Qc (Qm 39))),
(Qb 40 false (Qu 41)),
(Qa (Qu 41) (Qc (Qm 9))),
(Qb 40 false (Qu 42)),
(Qa (Qu 42) (MOp.not (Qm 41))),
(Qa (Qu 43) (Ql (Qm 40) (Qn (Qo (Qp (Qr true)))) (Qm 42))),
(Qa (Qu 44) (Qc (Qm 43))),
(Qb 44 false (Qu 45)),
(Qa (Qu 45) (Qc (Qm 11))),
(Qb 44 false (Qu 46)),
(Qa (Qu 46) (MOp.not (Qm 45))),
(Qa (Qu 47) (Ql (Qm 44) (Qn (Qo (Qp (Qr true)))) (Qm 46)))]
def f4_c7 : MC := .reg false f4_r7
def f4_r8 : List MO := [
(Qa (Qu 48) (Qc (Qm 5))),
(Qa (Qu 49) (Qc (Qm 48))),
(Qb 49 true (Qu 50)),
(Qa (Qu 50) (Qc (Qm 7))),
(Qb 49 true (Qu 51)),
(Qa (Qu 51) (Qd Qs Go.BinOp.neq (Qm 50) (Qn (Qo (Qp (Qq Qt 0)))))),
(Qb 49 true (Qu 52)),
(Qa (Qu 52) (Qc (Qm 51))),
(Qb 52 false (Qu 53)),
(Qa (Qu 53) (Qc (Qm 9))),
(Qb 52 false (Qu 54)),
(Qa (Qu 54) (Qc (Qm 11))),
(Qb 52 false (Qu 55)),
(Qa (Qu 55) (Qd Leaf.b Go.BinOp.eql (Qm 53) (Qm 54))),
(Qb 49 true (Qu 56)),
(Qa (Qu 56) (Ql (Qm 52) (Qn (Qo (Qp (Qr true)))) (Qm 55))),
(Qa (Qu 57) (Ql (Qm 49) (Qm 56) (Qn (Qo (Qp (Qr false)))))),
(Qa (Qu 58) (Qc (Qm 57))),
(Qb 58 true (Qu 59)),
(Qa (Qu 59) (Qc (Qm 7))),
(Qb 58 true (Qu 60)),
(Qa (Qu 60) (Qd Qs Go.BinOp.eql (Qm 59) (Qn (Qo (Qp (Qq Qt 0)))))),
(Qb 58 true (Qu 61)),
(Qa (Qu 61) (Qc (Qm 60))),
(Qb 61 false (Qu 62)),
(Qa (Qu 62) (Qc (Qm 9))),
(Qb 61 false (Qu 63)),
(Qa (Qu 63) (MOp.not (Qm 62))),
(Qb 58 true (Qu 64)),
(Qa (Qu 64) (Ql (Qm 61) (Qn (Qo (Qp (Qr true)))) (Qm 63))),
(Qa (Qu 65) (Ql (Qm 58) (Qm 64) (Qn (Qo (Qp (Qr false)))))),
(Qa (Qu 66) (Qc (Qm 65))),
(Qb 66 true (Qu 67)),
(Qa (Qu 67) (Qc (Qm 9))),
(Qb 66 true (Qu 68)),
(Qa (Qu 68) (Qc (Qm 67))),
(Qb 68 false (Qu 69)),
(Qa (Qu 69) (Qc (Qm 8))),
(Qb 68 false (Qu 70)),
(Qa (Qu 70) (Qd Qs Go.BinOp.eql (Qm 69) (Qn (Qo (Qp (Qq Qt 0)))))),
(Qb 66 true (Qu 71)),
(Qa (Qu 71) (Ql (Qm 68) (Qn (Qo (Qp (Qr true)))) (Qm 70))),
(Qa (Qu 72) (Ql (Qm 66) (Qm 71) (Qn (Qo (Qp (Qr false)))))),
(Qa (Qu 4) (Qc (Qm 72)))]
def f4_c8 : MC := .reg false f4_r8
def f4_c9 : MC := MC.ret
def f4_c10 : MC := .seq f4_c8 f4_c9
def f4_c11 : MC := MC.skip
def f4_c12 : MC := .cond (Qm 47) f4_c10 f4_c11
def f4_c13 : MC := .seq f4_c7 f4_c12
def f4_r14 : List MO := [
(Qa (Qu 73) (Qc (Qm 8))),
(Qa (Qu 74) (Qd Qs Go.BinOp.lss (Qm 73) (Qn (Qo (Qp (Qq Qt 0)))))),
(Qa (Qu 75) (Qc (Qm 74))),
(Qb 75 false (Qu 76)),
(Qa (Qu 76) (Qc (Qm 8))),
(Qb 75 false (Qu 77)),
(Qa (Qu 77) (Qf 1 (Qm 2))),
(Qb 75 false (Qu 78)),
(Qa (Qu 78) (Qe 1 false (Qm 77))),
(Qb 75 false (Qu 79)),
(Qa (Qu 79) (Qj Qs (Qm 78))),
(Qb 75 false (Qu 80)),
(Qa (Qu 80) (Qd Qs Go.BinOp.geq (Qm 76) (Qm 79))),
(Qa (Qu 81) (Ql (Qm 75) (Qn (Qo (Qp (Qr true)))) (Qm 80))),
(Qa (Qu 82) (Qc (Qm 81))),
(Qb 82 false (Qu 83)),
(Qa (Qu 83) (Qc (Qm 10))),
(Qb 82 false (Qu 84)),
(Qa (Qu 84) (Qd Qs Go.BinOp.lss (Qm 83) (Qn (Qo (Qp (Qq Qt 0)))))),
(Qa (Qu 85) (Ql (Qm 82) (Qn (Qo (Qp (Qr true)))) (Qm 84))),
(Qa (Qu 86) (Qc (Qm 85))),
(Qb 86 false (Qu 87)),
(Qa (Qu 87) (Qc (Qm 10))),
(Qb 86 false (Qu 88)),
(Qa (Qu 88) (Qf 1 (Qm 6))),
(Qb 86 false (Qu 89)),
(Qa (Qu 89) (Qe 1 false (Qm 88))),
(Qb 86 false (Qu 90)),
(Qa (Qu 90) (Qj Qs (Qm 89))),
(Qb 86 false (Qu 91)),
(Qa (Qu 91) (Qd Qs Go.BinOp.geq (Qm 87) (Qm 90))),
(Qa (Qu 92) (Ql (Qm 86) (Qn (Qo (Qp (Qr true)))) (Qm 91)))]
def f4_c14 : MC := .reg false f4_r14
def f4_r15 : List MO := [
(Qa (Qu 4) (Qc (Qn (Qo (Qp (Qr false))))))]
def f4_c15 : MC := .reg false f4_r15
def f4_c16 : MC := MC.ret
def f4_c17 : MC := .seq f4_c15 f4_c16
def f4_c18 : MC := MC.skip
def f4_c19 : MC := .cond (Qm 92) f4_c17 f4_c18
def f4_c20 : MC := .seq f4_c14 f4_c19
def f4_r21 : List MO := [
(Qa (Qu 94) (Qe 2 true (Qm 2))),
(Qa (Qu 95) (Qc (Qm 8))),
(Qa (Qu 96) (Qg 18 [(Qm 94), (Qm 95)])),
(Qa (Qu 93) (Qc (Qm 96))),
(Qa (Qu 97) (Qh (Qm 93) 0)),
(Qa (Qu 98) (Qh (Qm 93) 1)),
(Qa (Qu 12) (Qc (Qm 97))),
(Qa (Qu 13) (Qc (Qm 98)))]
def f4_c21 : MC := .reg false f4_r21
def f4_r22 : List MO := [
(Qa (Qu 100) (Qe 2 true (Qm 6))),
(Qa (Qu 101) (Qc (Qm 10))),
(Qa (Qu 102) (Qg 18 [(Qm 100), (Qm 101)])),
(Qa (Qu 99) (Qc (Qm 102))),
(Qa (Qu 103) (Qh (Qm 99) 0)),
(Qa (Qu 104) (Qh (Qm 99) 1)),
(Qa (Qu 14) (Qc (Qm 103))),
(Qa (Qu 15) (Qc (Qm 104)))]
def f4_c22 : MC := .reg false f4_r22
def f4_r23 : List MO := [
(Qa (Qu 105) (Qc (Qm 5))),
(Qa (Qu 106) (Qc (Qm 105))),
(Qb 106 true (Qu 107)),
(Qa (Qu 107) (Qc (Qm 13))),
(Qb 106 true (Qu 108)),
(Qa (Qu 108) (Qd Qs Go.BinOp.eql (Qm 107) (Qn (Qo (Qp (Qq Qt 0)))))),
(Qa (Qu 109) (Ql (Qm 106) (Qm 108) (Qn (Qo (Qp (Qr false)))))),
(Qa (Qu 110) (Qc (Qm 109))),
(Qb 110 true (Qu 111)),
(Qa (Qu 111) (Qc (Qm 15))),
(Qb 110 true (Qu 112)),
(Qa (Qu 112) (Qd Qs Go.BinOp.eql (Qm 111) (Qn (Qo (Qp (Qq Qt 0)))))),
(Qa (Qu 113) (Ql (Qm 110) (Qm 112) (Qn (Qo (Qp (Qr false)))))),
(Qa (Qu 114) (Qc (Qm 113))),
(Qb 114 true (Qu 115)),
(Qa (Qu 115) (Qf 1 (Qm 2))),
(Qb 114 true (Qu 116)),
(Qa (Qu 116) (Qe 1 false (Qm 115))),
(Qb 114 true (Qu 117)),
(Qa (Qu 117) (Qc (Qm 8))),
(Qb 114 true (Qu 118)),
(Qa (Qu 118) (Qi 6 (Qm 116) (Qm 117))),
(Qb 114 true (Qu 119)),
(Qa (Qu 119) (Qf 0 (Qm 118))),
(Qb 114 true (Qu 120)),
(Qa (Qu 120) (Qe 1 false (Qm 119))),
(Qb 114 true (Qu 121)),
(Qa (Qu 121) (Qf 1 (Qm 6))),
(Qb 114 true (Qu 122)),
(Qa (Qu 122) (Qe 1 false (Qm 121))),
(Qb 114 true (Qu 123)),
(Qa (Qu 123) (Qc (Qm 10))),
(Qb 114 true (Qu 124)),
(Qa (Qu 124) (Qi 6 (Qm 122) (Qm 123))),
(Qb 114 true (Qu 125)),
(Qa (Qu 125) (Qf 0 (Qm 124))),
(Qb 114 true (Qu 126)),
(Qa (Qu 126) (Qe 1 false (Qm 125))),
(Qb 114 true (Qu 127)),
(Qa (Qu 127) (Qd Qs Go.BinOp.eql (Qm 120) (Qm 126))),
(Qa (Qu 128) (Ql (Qm 114) (Qm 127) (Qn (Qo (Qp (Qr false)))))),
(Qa (Qu 129) (Qc (Qm 128))),
(Qb 129 true (Qu 130)),
(Qa (Qu 130) (Qf 1 (Qm 2))),
(Qb 129 true (Qu 131)),
(Qa (Qu 131) (Qe 1 false (Qm 130))),
(Qb 129 true (Qu 132)),
(Qa (Qu 132) (Qc (Qm 8))),
(Qb 129 true (Qu 133)),
(Qa (Qu 133) (Qi 6 (Qm 131) (Qm 132))),
(Qb 129 true (Qu 134)),
(Qa (Qu 134) (Qf 1 (Qm 133))),
(Qb 129 true (Qu 135)),
(Qa (Qu 135) (Qe 3 true (Qm 134))),
(Qb 129 true (Qu 136)),
(Qa (Qu 136) (Qf 1 (Qm 6))),
(Qb 129 true (Qu 137)),
(Qa (Qu 137) (Qe 1 false (Qm 136))),
(Qb 129 true (Qu 138)),
(Qa (Qu 138) (Qc (Qm 10))),
(Qb 129 true (Qu 139)),
(Qa (Qu 139) (Qi 6 (Qm 137) (Qm 138))),
(Qb 129 true (Qu 140)),
(Qa (Qu 140) (Qf 1 (Qm 139))),
(Qb 129 true (Qu 141)),
(Qa (Qu 141) (Qe 3 true (Qm 140))),
(Qb 129 true (Qu 142)),
(Qa (Qu 142) (MOp.eqs false [Qs, Qs, Leaf.s] (Qm 135) (Qm 141))),
(Qa (Qu 143) (Ql (Qm 129) (Qm 142) (Qn (Qo (Qp (Qr false)))))),
(Qa (Qu 144) (Qc (Qm 143))),
(Qb 144 true (Qu 145)),
(Qa (Qu 145) (Qc (Qm 12))),
(Qb 144 true (Qu 146)),
(Qa (Qu 146) (Qc (Qm 14))),
(Qb 144 true (Qu 147)),
(Qa (Qu 147) (Qg 19 [(Qm 145), (Qm 146)])),
(Qa (Qu 148) (Ql (Qm 144) (Qm 147) (Qn (Qo (Qp (Qr false)))))),
(Qa (Qu 149) (Qc (Qm 148))),
(Qb 149 true (Qu 150)),
(Qa (Qu 150) (Qf 1 (Qm 2))),
(Qb 149 true (Qu 151)),
(Qa (Qu 151) (Qe 1 false (Qm 150))),
(Qb 149 true (Qu 152)),
(Qa (Qu 152) (Qc (Qm 8))),
(Qb 149 true (Qu 153)),
(Qa (Qu 153) (Qi 6 (Qm 151) (Qm 152))),
(Qb 149 true (Qu 154)),
(Qa (Qu 154) (Qf 5 (Qm 153))),
(Qb 149 true (Qu 155)),
(Qa (Qu 155) (Qe 1 false (Qm 154))),
(Qb 149 true (Qu 156)),
(Qa (Qu 156) (Qj Qs (Qm 155))),
(Qb 149 true (Qu 157)),
(Qa (Qu 157) (Qf 1 (Qm 6))),
(Qb 149 true (Qu 158)),
(Qa (Qu 158) (Qe 1 false (Qm 157))),
(Qb 149 true (Qu 159)),
(Qa (Qu 159) (Qc (Qm 10))),
(Qb 149 true (Qu 160)),
(Qa (Qu 160) (Qi 6 (Qm 158) (Qm 159))),
(Qb 149 true (Qu 161)),
(Qa (Qu 161) (Qf 5 (Qm 160))),
(Qb 149 true (Qu 162)),
(Qa (Qu 162) (Qe 1 false (Qm 161))),
(Qb 149 true (Qu 163)),
(Qa (Qu 163) (Qj Qs (Qm 162))),
(Qb 149 true (Qu 164)),
(Qa (Qu 164) (Qd Qs Go.BinOp.eql (Qm 156) (Qm 163))),
(Qa (Qu 165) (Ql (Qm 149) (Qm 164) (Qn (Qo (Qp (Qr false)))))),
(Qa (Qu 4) (Qc (Qm 165)))]
def f4_c23 : MC := .reg true f4_r23
def f4_c24 : MC := MC.ret
def f4_c25 : MC := .seq f4_c23 f4_c24
def f4_c26 : MC := .seq f4_c22 f4_c25
def f4_c27 : MC := .seq f4_c21 f4_c26
def f4_c28 : MC := .seq f4_c20 f4_c27
def f4_c29 : MC := .seq f4_c13 f4_c28
def f4_c30 : MC := .seq f4_c6 f4_c29
def f4_c31 : MC := .seq f4_c5 f4_c30
def f4_c32 : MC := .seq f4_c4 f4_c31
def f4_c33 : MC := .seq f4_c3 f4_c32
def f4_c34 : MC := .seq f4_c2 f4_c33
def f4_c35 : MC := .seq f4_c1 f4_c34
def f4_c36 : MC := .seq f4_c0 f4_c35
noncomputable def f4_code : Code := (Go.Proofs.Tryd.f4.body).getD .skip
theorem f4_body : Go.Proofs.Tryd.f4.body = Qu f4_code := by kernel_rfl
theorem f4_tr : trC Go.Proofs.Tryd.prog [] f4_code = Qu f4_c36 := by kernel_rfl
theorem f4_rs : rsOf Go.Proofs.Tryd.prog Go.Proofs.Tryd.f4.results.toList = Qu [(RV.t 4)] := by kernel_rfl
theorem f4_nt : Go.Proofs.Tryd.f4.ntmps = 166 := by kernel_rfl
theorem f4_ok : callable Go.Proofs.Tryd.prog 4 = true := by kernel_rfl
theorem f4_in {gp : Heap} {args : List V} {res : V} (h : G ⟨Go.Proofs.Tryd.prog, gp, 0, [(RV.t 4)], fun r c => r = res ∧ c = [], false⟩ [.code f4_c36, .fin] ⟨args ++ List.replicate (166 - args.length) .un, []⟩) : Does Go.Proofs.Tryd.prog gp 4 args res :=
  does_intro f4_ok Go.Proofs.Tryd.func4 f4_body f4_tr f4_rs (by rw [f4_nt]; exact h)
theorem f4_tri {gp : Heap} {args : List V} {pre : List Ch} {R : V → List Ch → Prop} (h : G ⟨Go.Proofs.Tryd.prog, gp, pre.length, [(RV.t 4)], R, false⟩ [.code f4_c36, .fin] ⟨args ++ List.replicate (166 - args.length) .un, pre⟩) : Tri Go.Proofs.Tryd.prog gp 4 args pre R :=
  tri_intro Go.Proofs.Tryd.func4 f4_body f4_tr f4_rs (by rw [f4_nt]; exact h)

/-! sigillary/sigillarylaw08.ReachWalk -/
def f5_r0 : List MO := [
(Qa (Qu 1) (MOp.box (Qm 0))),
(Qa (Qu 2) (Qc (Qn (Qo (Qp (Qr false))))))]
def f5_c0 : MC := .reg false f5_r0
def f5_r1 : List MO := [
(Qa (Qu 11) (Qg 9 [])),
(Qa (Qu 3) (Qc (Qm 11)))]
def f5_c1 : MC := .reg false f5_r1
def f5_r2 : List MO := [
(Qa (Qu 12) (Qe 2 true (Qm 1))),
(Qa (Qu 13) (Qg 10 [(Qm 12)])),
(Qa none (Qk 2 (Qm 1) (Qm 13)))]
def f5_c2 : MC := .reg false f5_r2
def f5_r3 : List MO := [
(Qa (Qu 15) (Qe 2 true (Qm 1))),
(Qa (Qu 16) (Qg 12 [(Qm 15)])),
(Qa (Qu 14) (Qc (Qm 16))),
(Qa (Qu 17) (Qh (Qm 14) 0)),
(Qa (Qu 18) (Qh (Qm 14) 1)),
(Qa (Qu 4) (Qc (Qm 17))),
(Qa (Qu 5) (Qc (Qm 18)))]
def f5_c3 : MC := .reg false f5_r3
def f5_r4 : List MO := [
(Qa (Qu 19) (Qc (Qm 5))),
(Qa (Qu 20) (Qd Qs Go.BinOp.neq (Qm 19) (Qn (Qo (Qp (Qq Qt 0))))))]
def f5_c4 : MC := .reg false f5_r4
def f5_r5 : List MO := [
(Qa (Qu 21) (Qc (Qm 3))),
(Qa (Qu 22) (Qc (Qm 21))),
(Qb 22 true (Qu 23)),
(Qa (Qu 23) (Qc (Qm 4))),
(Qb 22 true (Qu 24)),
(Qa (Qu 24) (Qj Qs (Qm 23))),
(Qb 22 true (Qu 25)),
(Qa (Qu 25) (Qd Qs Go.BinOp.eql (Qm 24) (Qn (Qo (Qp (Qq Qt 0)))))),
(Qa (Qu 26) (Ql (Qm 22) (Qm 25) (Qn (Qo (Qp (Qr false)))))),
(Qa (Qu 2) (Qc (Qm 26)))]
def f5_c5 : MC := .reg false f5_r5
def f5_c6 : MC := MC.ret
def f5_c7 : MC := .seq f5_c5 f5_c6
def f5_c8 : MC := MC.skip
def f5_c9 : MC := .cond (Qm 20) f5_c7 f5_c8
def f5_c10 : MC := .seq f5_c4 f5_c9
def f5_r11 : List MO := [
(Qa (Qu 27) (Qc (Qm 4))),
(Qa (Qu 28) (Qj Qs (Qm 27))),
(Qa (Qu 29) (Qd Qs Go.BinOp.eql (Qm 28) (Qn (Qo (Qp (Qq Qt 0)))))),
(Qa (Qu 30) (Qc (Qm 29))),
(Qb 30 false (Qu 31)),
(Qa (Qu 31) (Qc (Qm 4))),
(Qb 30 false (Qu 32)),
(Qa (Qu 32) (Qi 1 (Qm 31) (Qn (Qo (Qp (Qq Qt 0)))))),
(Qb 30 false (Qu 33)),
(Qa (Qu 33) (Qe 1 false (Qm 32))),
(Qb 30 false (Qu 34)),
(Qa (Qu 34) (Qf 0 (Qm 1))),
(Qb 30 false (Qu 35)),
(Qa (Qu 35) (Qe 1 false (Qm 34))),
(Qb 30 false (Qu 36)),
(Qa (Qu 36) (Qd Qs Go.BinOp.neq (Qm 33) (Qm 35))),
(Qa (Qu 37) (Ql (Qm 30) (Qn (Qo (Qp (Qr true)))) (Qm 36)))]
def f5_c11 : MC := .reg true f5_r11
def f5_r12 : List MO := [
(Qa (Qu 2) (Qc (Qn (Qo (Qp (Qr false))))))]
def f5_c12 : MC := .reg false f5_r12
def f5_c13 : MC := MC.ret
def f5_c14 : MC := .seq f5_c12 f5_c13
def f5_c15 : MC := MC.skip
def f5_c16 : MC := .cond (Qm 37) f5_c14 f5_c15
def f5_c17 : MC := .seq f5_c11 f5_c16
def f5_r18 : List MO := [
(Qa (Qu 6) (Qc (Qn (Qo (Qp (Qq Qt 0))))))]
def f5_c18 : MC := .reg false f5_r18
def f5_r19 : List MO := [
(Qa (Qu 38) (Qc (Qm 6))),
(Qa (Qu 39) (Qc (Qm 4))),
(Qa (Qu 40) (Qj Qs (Qm 39))),
(Qa (Qu 41) (Qd Qs Go.BinOp.lss (Qm 38) (Qm 40)))]
def f5_c19 : MC := .reg false f5_r19
def f5_c20 : MC := MC.skip
def f5_c21 : MC := (MC.exit 0)
def f5_c22 : MC := .cond (Qm 41) f5_c20 f5_c21
def f5_c23 : MC := .seq f5_c19 f5_c22
def f5_r24 : List MO := [
(Qa (Qu 44) (Qc (Qm 4))),
(Qa (Qu 45) (Qc (Qm 6))),
(Qa (Qu 46) (Qi 1 (Qm 44) (Qm 45))),
(Qa (Qu 47) (Qe 1 false (Qm 46))),
(Qa (Qu 48) (Qd Qs Go.BinOp.lss (Qm 47) (Qn (Qo (Qp (Qq Qt 0)))))),
(Qa (Qu 49) (Qc (Qm 48))),
(Qb 49 false (Qu 50)),
(Qa (Qu 50) (Qc (Qm 4))),
(Qb 49 false (Qu 51)),
(Qa (Qu 51) (Qc (Qm 6))),
(Qb 49 false (Qu 52)),
(Qa (Qu 52) (Qi 1 (Qm 50) (Qm 51))),
(Qb 49 false (Qu 53)),
(Qa (Qu 53) (Qe 1 false (Qm 52))),
(Qb 49 false (Qu 54)),
(Qa (Qu 54) (Qf 1 (Qm 1))),
(Qb 49 false (Qu 55)),
(Qa (Qu 55) (Qe 1 false (Qm 54))),
(Qb 49 false (Qu 56)),
(Qa (Qu 56) (Qj Qs (Qm 55))),
(Qb 49 false (Qu 57)),
(Qa (Qu 57) (Qd Qs Go.BinOp.geq (Qm 53) (Qm 56))),
(Qa (Qu 58) (Ql (Qm 49) (Qn (Qo (Qp (Qr true)))) (Qm 57))),
(Qa (Qu 59) (Qc (Qm 58))),
(Qb 59 false (Qu 60)),
(Qa (Qu 60) (Qc (Qm 4))),
(Qb 59 false (Qu 61)),
(Qa (Qu 61) (Qc (Qm 4))),
(Qb 59 false (Qu 62)),
(Qa (Qu 62) (Qc (Qm 6))),
(Qb 59 false (Qu 63)),
(Qa (Qu 63) (Qi 1 (Qm 61) (Qm 62))),
(Qb 59 false (Qu 64)),
(Qa (Qu 64) (Qe 1 false (Qm 63))),
(Qb 59 false (Qu 65)),
(Qa (Qu 65) (Qg 20 [(Qm 60), (Qm 64)])),
(Qb 59 false (Qu 66)),
(Qa (Qu 66) (Qc (Qm 6))),
(Qb 59 false (Qu 67)),
(Qa (Qu 67) (Qd Qs Go.BinOp.neq (Qm 65) (Qm 66))),
(Qa (Qu 68) (Ql (Qm 59) (Qn (Qo (Qp (Qr true)))) (Qm 67)))]
def f5_c24 : MC := .reg true f5_r24
def f5_r25 : List MO := [
(Qa (Qu 2) (Qc (Qn (Qo (Qp (Qr false))))))]
def f5_c25 : MC := .reg false f5_r25
def f5_c26 : MC := MC.ret
def f5_c27 : MC := .seq f5_c25 f5_c26
def f5_c28 : MC := MC.skip
def f5_c29 : MC := .cond (Qm 68) f5_c27 f5_c28
def f5_c30 : MC := .seq f5_c24 f5_c29
def f5_r31 : List MO := [
(Qa (Qu 69) (Qc (Qm 6))),
(Qa (Qu 70) (Qd Qs Go.BinOp.eql (Qm 69) (Qn (Qo (Qp (Qq Qt 0)))))),
(Qa (Qu 7) (Qc (Qm 70)))]
def f5_c31 : MC := .reg false f5_r31
def f5_r32 : List MO := [
(Qa (Qu 8) (Qc (Qn (Qo (Qp (Qq Qt 0))))))]
def f5_c32 : MC := .reg false f5_r32
def f5_r33 : List MO := [
(Qa (Qu 71) (Qc (Qm 8))),
(Qa (Qu 72) (Qc (Qm 6))),
(Qa (Qu 73) (Qd Qs Go.BinOp.lss (Qm 71) (Qm 72)))]
def f5_c33 : MC := .reg false f5_r33
def f5_c34 : MC := MC.skip
def f5_c35 : MC := (MC.exit 2)
def f5_c36 : MC := .cond (Qm 73) f5_c34 f5_c35
def f5_c37 : MC := .seq f5_c33 f5_c36
def f5_r38 : List MO := [
(Qa (Qu 76) (Qc (Qm 7))),
(Qa (Qu 77) (Qc (Qm 76))),
(Qb 77 false (Qu 78)),
(Qa (Qu 78) (Qf 1 (Qm 1))),
(Qb 77 false (Qu 79)),
(Qa (Qu 79) (Qe 1 false (Qm 78))),
(Qb 77 false (Qu 80)),
(Qa (Qu 80) (Qc (Qm 4))),
(Qb 77 false (Qu 81)),
(Qa (Qu 81) (Qc (Qm 8))),
(Qb 77 false (Qu 82)),
(Qa (Qu 82) (Qi 1 (Qm 80) (Qm 81))),
(Qb 77 false (Qu 83)),
(Qa (Qu 83) (Qe 1 false (Qm 82))),
(Qb 77 false (Qu 84)),
(Qa (Qu 84) (Qi 6 (Qm 79) (Qm 83))),
(Qb 77 false (Qu 85)),
(Qa (Qu 85) (Qf 5 (Qm 84))),
(Qb 77 false (Qu 86)),
(Qa (Qu 86) (Qe 1 false (Qm 85))),
(Qb 77 false (Qu 87)),
(Qa (Qu 87) (Qc (Qm 4))),
(Qb 77 false (Qu 88)),
(Qa (Qu 88) (Qc (Qm 6))),
(Qb 77 false (Qu 89)),
(Qa (Qu 89) (Qi 1 (Qm 87) (Qm 88))),
(Qb 77 false (Qu 90)),
(Qa (Qu 90) (Qe 1 false (Qm 89))),
(Qb 77 false (Qu 91)),
(Qa (Qu 91) (Qg 20 [(Qm 86), (Qm 90)])),
(Qb 77 false (Qu 92)),
(Qa (Qu 92) (Qd Qs Go.BinOp.geq (Qm 91) (Qn (Qo (Qp (Qq Qt 0)))))),
(Qa (Qu 93) (Ql (Qm 77) (Qn (Qo (Qp (Qr true)))) (Qm 92))),
(Qa (Qu 7) (Qc (Qm 93)))]
def f5_c38 : MC := .reg true f5_r38
def f5_c39 : MC := .blk 3 f5_c38
def f5_r40 : List MO := [
(Qa (Qu 74) (Qc (Qm 8))),
(Qa (Qu 75) (Qd Qs Go.BinOp.add (Qm 74) (Qn (Qo (Qp (Qq Qt 1)))))),
(Qa (Qu 8) (Qc (Qm 75)))]
def f5_c40 : MC := .reg false f5_r40
def f5_c41 : MC := .seq f5_c39 f5_c40
def f5_c42 : MC := .seq f5_c37 f5_c41
def f5_c43 : MC := .loop f5_c42
def f5_c44 : MC := .blk 2 f5_c43
def f5_c45 : MC := .seq f5_c32 f5_c44
def f5_r46 : List MO := [
(Qa (Qu 94) (Qc (Qm 7))),
(Qa (Qu 95) (MOp.not (Qm 94)))]
def f5_c46 : MC := .reg false f5_r46
def f5_r47 : List MO := [
(Qa (Qu 2) (Qc (Qn (Qo (Qp (Qr false))))))]
def f5_c47 : MC := .reg false f5_r47
def f5_c48 : MC := MC.ret
def f5_c49 : MC := .seq f5_c47 f5_c48
def f5_c50 : MC := MC.skip
def f5_c51 : MC := .cond (Qm 95) f5_c49 f5_c50
def f5_c52 : MC := .seq f5_c46 f5_c51
def f5_r53 : List MO := [
(Qa (Qu 96) (Qf 1 (Qm 1))),
(Qa (Qu 97) (Qe 1 false (Qm 96))),
(Qa (Qu 98) (Qc (Qm 4))),
(Qa (Qu 99) (Qc (Qm 6))),
(Qa (Qu 100) (Qi 1 (Qm 98) (Qm 99))),
(Qa (Qu 101) (Qe 1 false (Qm 100))),
(Qa (Qu 102) (Qi 6 (Qm 97) (Qm 101))),
(Qa (Qu 103) (Qf 5 (Qm 102))),
(Qa (Qu 104) (Qe 1 false (Qm 103))),
(Qa (Qu 9) (Qc (Qm 104)))]
def f5_c53 : MC := .reg true f5_r53
def f5_r54 : List MO := [
(Qa (Qu 10) (Qc (Qn (Qo (Qp (Qq Qt 0))))))]
def f5_c54 : MC := .reg false f5_r54
def f5_r55 : List MO := [
(Qa (Qu 105) (Qc (Qm 10))),
(Qa (Qu 106) (Qc (Qm 9))),
(Qa (Qu 107) (Qj Qs (Qm 106))),
(Qa (Qu 108) (Qd Qs Go.BinOp.lss (Qm 105) (Qm 107)))]
def f5_c55 : MC := .reg false f5_r55
def f5_c56 : MC := MC.skip
def f5_c57 : MC := (MC.exit 4)
def f5_c58 : MC := .cond (Qm 108) f5_c56 f5_c57
def f5_c59 : MC := .seq f5_c55 f5_c58
def f5_r60 : List MO := [
(Qa (Qu 111) (Qc (Qm 4))),
(Qa (Qu 112) (Qc (Qm 9))),
(Qa (Qu 113) (Qc (Qm 10))),
(Qa (Qu 114) (Qi 1 (Qm 112) (Qm 113))),
(Qa (Qu 115) (Qe 1 false (Qm 114))),
(Qa (Qu 116) (Qg 20 [(Qm 111), (Qm 115)])),
(Qa (Qu 117) (Qd Qs Go.BinOp.lss (Qm 116) (Qn (Qo (Qp (Qq Qt 0))))))]
def f5_c60 : MC := .reg false f5_r60
def f5_r61 : List MO := [
(Qa (Qu 2) (Qc (Qn (Qo (Qp (Qr false))))))]
def f5_c61 : MC := .reg false f5_r61
def f5_c62 : MC := MC.ret
def f5_c63 : MC := .seq f5_c61 f5_c62
def f5_c64 : MC := MC.skip
def f5_c65 : MC := .cond (Qm 117) f5_c63 f5_c64
def f5_c66 : MC := .seq f5_c60 f5_c65
def f5_c67 : MC := .blk 5 f5_c66
def f5_r68 : List MO := [
(Qa (Qu 109) (Qc (Qm 10))),
(Qa (Qu 110) (Qd Qs Go.BinOp.add (Qm 109) (Qn (Qo (Qp (Qq Qt 1)))))),
(Qa (Qu 10) (Qc (Qm 110)))]
def f5_c68 : MC := .reg false f5_r68
def f5_c69 : MC := .seq f5_c67 f5_c68
def f5_c70 : MC := .seq f5_c59 f5_c69
def f5_c71 : MC := .loop f5_c70
def f5_c72 : MC := .blk 4 f5_c71
def f5_c73 : MC := .seq f5_c54 f5_c72
def f5_c74 : MC := .seq f5_c53 f5_c73
def f5_c75 : MC := .seq f5_c52 f5_c74
def f5_c76 : MC := .seq f5_c45 f5_c75
def f5_c77 : MC := .seq f5_c31 f5_c76
def f5_c78 : MC := .seq f5_c30 f5_c77
def f5_c79 : MC := .blk 1 f5_c78
def f5_r80 : List MO := [
(Qa (Qu 42) (Qc (Qm 6))),
(Qa (Qu 43) (Qd Qs Go.BinOp.add (Qm 42) (Qn (Qo (Qp (Qq Qt 1)))))),
(Qa (Qu 6) (Qc (Qm 43)))]
def f5_c80 : MC := .reg false f5_r80
def f5_c81 : MC := .seq f5_c79 f5_c80
def f5_c82 : MC := .seq f5_c23 f5_c81
def f5_c83 : MC := .loop f5_c82
def f5_c84 : MC := .blk 0 f5_c83
def f5_c85 : MC := .seq f5_c18 f5_c84
def f5_r86 : List MO := [
(Qa (Qu 118) (Qc (Qm 3))),
(Qa (Qu 2) (Qc (Qm 118)))]
def f5_c86 : MC := .reg false f5_r86
def f5_c87 : MC := MC.ret
def f5_c88 : MC := .seq f5_c86 f5_c87
def f5_c89 : MC := .seq f5_c85 f5_c88
def f5_c90 : MC := .seq f5_c17 f5_c89
def f5_c91 : MC := .seq f5_c10 f5_c90
def f5_c92 : MC := .seq f5_c3 f5_c91
def f5_c93 : MC := .seq f5_c2 f5_c92
def f5_c94 : MC := .seq f5_c1 f5_c93
def f5_c95 : MC := .seq f5_c0 f5_c94
noncomputable def f5_code : Code := (Go.Proofs.Tryd.f5.body).getD .skip
theorem f5_body : Go.Proofs.Tryd.f5.body = Qu f5_code := by kernel_rfl
theorem f5_tr : trC Go.Proofs.Tryd.prog [] f5_code = Qu f5_c95 := by kernel_rfl
theorem f5_rs : rsOf Go.Proofs.Tryd.prog Go.Proofs.Tryd.f5.results.toList = Qu [(RV.t 2)] := by kernel_rfl
theorem f5_nt : Go.Proofs.Tryd.f5.ntmps = 119 := by kernel_rfl
theorem f5_ok : callable Go.Proofs.Tryd.prog 5 = true := by kernel_rfl
theorem f5_in {gp : Heap} {args : List V} {res : V} (h : G ⟨Go.Proofs.Tryd.prog, gp, 0, [(RV.t 2)], fun r c => r = res ∧ c = [], false⟩ [.code f5_c95, .fin] ⟨args ++ List.replicate (119 - args.length) .un, []⟩) : Does Go.Proofs.Tryd.prog gp 5 args res :=
  does_intro f5_ok Go.Proofs.Tryd.func5 f5_body f5_tr f5_rs (by rw [f5_nt]; exact h)
theorem f5_tri {gp : Heap} {args : List V} {pre : List Ch} {R : V → List Ch → Prop} (h : G ⟨Go.Proofs.Tryd.prog, gp, pre.length, [(RV.t 2)], R, false⟩ [.code f5_c95, .fin] ⟨args ++ List.replicate (119 - args.length) .un, pre⟩) : Tri Go.Proofs.Tryd.prog gp 5 args pre R :=
  tri_intro Go.Proofs.Tryd.func5 f5_body f5_tr f5_rs (by rw [f5_nt]; exact h)

/-! sigillary/sigillarylaw08.ReachPlaces -/
def f6_r0 : List MO := [
(Qa (Qu 1) (MOp.ibox (Qm 0))),
(Qa (Qu 2) (Qc (Qn (Qo (Qp (Qr false))))))]
def f6_c0 : MC := .reg false f6_r0
def f6_r1 : List MO := [
(Qa (Qu 9) (Qg 9 [])),
(Qa (Qu 3) (Qc (Qm 9)))]
def f6_c1 : MC := .reg false f6_r1
def f6_r2 : List MO := [
(Qa (Qu 11) (Qe 2 true (Qm 1))),
(Qa (Qu 12) (Qg 10 [(Qm 11)])),
(Qa (Qu 13) (Qg 11 [(Qm 12)])),
(Qa (Qu 10) (Qc (Qm 13))),
(Qa (Qu 14) (Qh (Qm 10) 0)),
(Qa (Qu 15) (Qh (Qm 10) 1)),
(Qa (Qu 4) (MOp.alloc [(Qq Qt 0), (D.sl [])])),
(Qa none (Qk 2 (Qm 4) (Qm 14))),
(Qa (Qu 5) (Qc (Qm 15)))]
def f6_c2 : MC := .reg false f6_r2
def f6_r3 : List MO := [
(Qa (Qu 17) (Qe 2 true (Qm 4))),
(Qa (Qu 18) (Qg 12 [(Qm 17)])),
(Qa (Qu 16) (Qc (Qm 18))),
(Qa (Qu 19) (Qh (Qm 16) 0)),
(Qa (Qu 20) (Qh (Qm 16) 1)),
(Qa (Qu 6) (Qc (Qm 19))),
(Qa (Qu 7) (Qc (Qm 20)))]
def f6_c3 : MC := .reg false f6_r3
def f6_r4 : List MO := [
(Qa (Qu 21) (Qc (Qm 5))),
(Qa (Qu 22) (Qd Qs Go.BinOp.neq (Qm 21) (Qn (Qo (Qp (Qq Qt 0))))))]
def f6_c4 : MC := .reg false f6_r4
def f6_r5 : List MO := [
(Qa (Qu 23) (Qc (Qm 3))),
(Qa (Qu 24) (Qc (Qm 23))),
(Qb 24 true (Qu 25)),
(Qa (Qu 25) (Qc (Qm 7))),
(Qb 24 true (Qu 26)),
(Qa (Qu 26) (Qd Qs Go.BinOp.eql (Qm 25) (Qn (Qo (Qp (Qq Qt 70)))))),
(Qa (Qu 27) (Ql (Qm 24) (Qm 26) (Qn (Qo (Qp (Qr false)))))),
(Qa (Qu 2) (Qc (Qm 27)))]
def f6_c5 : MC := .reg false f6_r5
def f6_c6 : MC := MC.ret
def f6_c7 : MC := .seq f6_c5 f6_c6
def f6_c8 : MC := MC.skip
def f6_c9 : MC := .cond (Qm 22) f6_c7 f6_c8
def f6_c10 : MC := .seq f6_c4 f6_c9
def f6_r11 : List MO := [
(Qa (Qu 8) (Qc (Qn (Qo (Qp (Qq Qt 0))))))]
def f6_c11 : MC := .reg false f6_r11
def f6_r12 : List MO := [
(Qa (Qu 28) (Qc (Qm 8))),
(Qa (Qu 29) (Qc (Qm 6))),
(Qa (Qu 30) (Qj Qs (Qm 29))),
(Qa (Qu 31) (Qd Qs Go.BinOp.lss (Qm 28) (Qm 30)))]
def f6_c12 : MC := .reg false f6_r12
def f6_c13 : MC := MC.skip
def f6_c14 : MC := (MC.exit 0)
def f6_c15 : MC := .cond (Qm 31) f6_c13 f6_c14
def f6_c16 : MC := .seq f6_c12 f6_c15
def f6_r17 : List MO := [
(Qa (Qu 34) (Qc (Qm 6))),
(Qa (Qu 35) (Qc (Qm 8))),
(Qa (Qu 36) (Qi 1 (Qm 34) (Qm 35))),
(Qa (Qu 37) (Qe 1 false (Qm 36))),
(Qa (Qu 38) (Qc (Qm 8))),
(Qa (Qu 39) (Qd Qs Go.BinOp.neq (Qm 37) (Qm 38)))]
def f6_c17 : MC := .reg false f6_r17
def f6_r18 : List MO := [
(Qa (Qu 2) (Qc (Qn (Qo (Qp (Qr false))))))]
def f6_c18 : MC := .reg false f6_r18
def f6_c19 : MC := MC.ret
def f6_c20 : MC := .seq f6_c18 f6_c19
def f6_c21 : MC := MC.skip
def f6_c22 : MC := .cond (Qm 39) f6_c20 f6_c21
def f6_c23 : MC := .seq f6_c17 f6_c22
def f6_c24 : MC := .blk 1 f6_c23
def f6_r25 : List MO := [
(Qa (Qu 32) (Qc (Qm 8))),
(Qa (Qu 33) (Qd Qs Go.BinOp.add (Qm 32) (Qn (Qo (Qp (Qq Qt 1)))))),
(Qa (Qu 8) (Qc (Qm 33)))]
def f6_c25 : MC := .reg false f6_r25
def f6_c26 : MC := .seq f6_c24 f6_c25
def f6_c27 : MC := .seq f6_c16 f6_c26
def f6_c28 : MC := .loop f6_c27
def f6_c29 : MC := .blk 0 f6_c28
def f6_c30 : MC := .seq f6_c11 f6_c29
def f6_r31 : List MO := [
(Qa (Qu 40) (Qc (Qm 3))),
(Qa (Qu 41) (Qc (Qm 40))),
(Qb 41 true (Qu 42)),
(Qa (Qu 42) (Qc (Qm 7))),
(Qb 41 true (Qu 43)),
(Qa (Qu 43) (Qd Qs Go.BinOp.eql (Qm 42) (Qn (Qo (Qp (Qq Qt 0)))))),
(Qa (Qu 44) (Ql (Qm 41) (Qm 43) (Qn (Qo (Qp (Qr false)))))),
(Qa (Qu 45) (Qc (Qm 44))),
(Qb 45 true (Qu 46)),
(Qa (Qu 46) (Qc (Qm 6))),
(Qb 45 true (Qu 47)),
(Qa (Qu 47) (Qj Qs (Qm 46))),
(Qb 45 true (Qu 48)),
(Qa (Qu 48) (Qf 1 (Qm 4))),
(Qb 45 true (Qu 49)),
(Qa (Qu 49) (Qe 1 false (Qm 48))),
(Qb 45 true (Qu 50)),
(Qa (Qu 50) (Qj Qs (Qm 49))),
(Qb 45 true (Qu 51)),
(Qa (Qu 51) (Qd Qs Go.BinOp.eql (Qm 47) (Qm 50))),
(Qa (Qu 52) (Ql (Qm 45) (Qm 51) (Qn (Qo (Qp (Qr false)))))),
(Qa (Qu 53) (Qc (Qm 52))),
(Qb 53 true (Qu 54)),
(Qa (Qu 54) (Qf 0 (Qm 4))),
(Qb 53 true (Qu 55)),
(Qa (Qu 55) (Qe 1 false (Qm 54))),
(Qb 53 true (Qu 56)),
(Qa (Qu 56) (Qd Qs Go.BinOp.eql (Qm 55) (Qn (Qo (Qp (Qq Qt 0)))))),
(Qa (Qu 57) (Ql (Qm 53) (Qm 56) (Qn (Qo (Qp (Qr false)))))),
(Qa (Qu 2) (Qc (Qm 57)))]
def f6_c31 : MC := .reg false f6_r31
def f6_c32 : MC := MC.ret
def f6_c33 : MC := .seq f6_c31 f6_c32
def f6_c34 : MC := .seq f6_c30 f6_c33
def f6_c35 : MC := .seq f6_c10 f6_c34
def f6_c36 : MC := .seq f6_c3 f6_c35
def f6_c37 : MC := .seq f6_c2 f6_c36
def f6_c38 : MC := .seq f6_c1 f6_c37
def f6_c39 : MC := .seq f6_c0 f6_c38
noncomputable def f6_code : Code := (Go.Proofs.Tryd.f6.body).getD .skip
theorem f6_body : Go.Proofs.Tryd.f6.body = Qu f6_code := by kernel_rfl
theorem f6_tr : trC Go.Proofs.Tryd.prog [1] f6_code = Qu f6_c39 := by kernel_rfl
theorem f6_rs : rsOf Go.Proofs.Tryd.prog Go.Proofs.Tryd.f6.results.toList = Qu [(RV.t 2)] := by kernel_rfl
theorem f6_nt : Go.Proofs.Tryd.f6.ntmps = 58 := by kernel_rfl
theorem f6_ok : callable Go.Proofs.Tryd.prog 6 = true := by kernel_rfl
theorem f6_in {gp : Heap} {args : List V} {res : V} (h : G ⟨Go.Proofs.Tryd.prog, gp, 0, [(RV.t 2)], fun r c => r = res ∧ c = [], false⟩ [.code f6_c39, .fin] ⟨args ++ List.replicate (58 - args.length) .un, []⟩) : Does Go.Proofs.Tryd.prog gp 6 args res :=
  does_intro f6_ok Go.Proofs.Tryd.func6 f6_body f6_tr f6_rs (by rw [f6_nt]; exact h)
theorem f6_tri {gp : Heap} {args : List V} {pre : List Ch} {R : V → List Ch → Prop} (h : G ⟨Go.Proofs.Tryd.prog, gp, pre.length, [(RV.t 2)], R, false⟩ [.code f6_c39, .fin] ⟨args ++ List.replicate (58 - args.length) .un, pre⟩) : Tri Go.Proofs.Tryd.prog gp 6 args pre R :=
  tri_intro Go.Proofs.Tryd.func6 f6_body f6_tr f6_rs (by rw [f6_nt]; exact h)

/-! sigillary/sigillarylaw08.ReachSteps -/
def f7_r0 : List MO := [
(Qa (Qu 3) (MOp.box (Qm 0))),
(Qa (Qu 6) (Qc (Qn (Qo (Qp (Qr false))))))]
def f7_c0 : MC := .reg false f7_r0
def f7_r1 : List MO := [
(Qa (Qu 15) (Qg 9 [])),
(Qa (Qu 7) (Qc (Qm 15)))]
def f7_c1 : MC := .reg false f7_r1
def f7_r2 : List MO := [
(Qa (Qu 16) (Qe 2 true (Qm 3))),
(Qa (Qu 17) (Qg 10 [(Qm 16)])),
(Qa none (Qk 2 (Qm 3) (Qm 17)))]
def f7_c2 : MC := .reg false f7_r2
def f7_r3 : List MO := [
(Qa (Qu 18) (Qc (Qm 1))),
(Qa (Qu 19) (Qg 16 [(Qm 18)])),
(Qa (Qu 1) (Qc (Qm 19)))]
def f7_c3 : MC := .reg false f7_r3
def f7_r4 : List MO := [
(Qa (Qu 21) (Qe 2 true (Qm 3))),
(Qa (Qu 22) (Qc (Qm 1))),
(Qa (Qu 23) (Qg 17 [(Qm 21), (Qm 22)])),
(Qa (Qu 20) (Qc (Qm 23))),
(Qa (Qu 24) (Qh (Qm 20) 0)),
(Qa (Qu 25) (Qh (Qm 20) 1)),
(Qa (Qu 8) (Qc (Qm 24))),
(Qa (Qu 9) (Qc (Qm 25)))]
def f7_c4 : MC := .reg false f7_r4
def f7_r5 : List MO := [
(Qa (Qu 10) (Qc (Qn (Qo A.nil))))]
def f7_c5 : MC := .reg false f7_r5
def f7_r6 : List MO := [
(Qa (Qu 26) (Qc (Qm 10))),
(Qa (Qu 27) (Qc (Qm 1))),
(Qa (Qu 28) (MOp.app 1 8 (Qm 26) (Qm 27))),
(Qa (Qu 29) (Qc (Qm 2))),
(Qa (Qu 30) (MOp.bslice 1 [(Qq Qt 0)] 1 [(0, (Qm 29))])),
(Qa (Qu 31) (MOp.app 1 8 (Qm 28) (Qm 30))),
(Qa (Qu 10) (Qc (Qm 31)))]
def f7_c6 : MC := .reg false f7_r6
def f7_r7 : List MO := [
(Qa (Qu 33) (Qe 2 true (Qm 3))),
(Qa (Qu 34) (Qc (Qm 10))),
(Qa (Qu 35) (Qg 17 [(Qm 33), (Qm 34)])),
(Qa (Qu 32) (Qc (Qm 35))),
(Qa (Qu 36) (Qh (Qm 32) 0)),
(Qa (Qu 37) (Qh (Qm 32) 1)),
(Qa (Qu 11) (Qc (Qm 36))),
(Qa (Qu 12) (Qc (Qm 37)))]
def f7_c7 : MC := .reg false f7_r7
def f7_r8 : List MO := [
(Qa (Qu 38) (Qc (Qm 9))),
(Qa (Qu 39) (MOp.not (Qm 38)))]
def f7_c8 : MC := .reg false f7_r8
def f7_r9 : List MO := [
(Qa (Qu 40) (Qc (Qm 7))),
(Qa (Qu 41) (Qc (Qm 40))),
(Qb 41 true (Qu 42)),
(Qa (Qu 42) (Qc (Qm 12))),
(Qb 41 true (Qu 43)),
(Qa (Qu 43) (MOp.not (Qm 42))),
(Qa (Qu 44) (Ql (Qm 41) (Qm 43) (Qn (Qo (Qp (Qr false)))))),
(Qa (Qu 45) (Qc (Qm 44))),
(Qb 45 true (Qu 46)),
(Qa (Qu 46) (Qc (Qm 8))),
(Qb 45 true (Qu 47)),
(Qa (Qu 47) (Qd Qs Go.BinOp.eql (Qm 46) (Qn (Qo (Qp (Qq Qt 0)))))),
(Qa (Qu 48) (Ql (Qm 45) (Qm 47) (Qn (Qo (Qp (Qr false)))))),
(Qa (Qu 49) (Qc (Qm 48))),
(Qb 49 true (Qu 50)),
(Qa (Qu 50) (Qc (Qm 11))),
(Qb 49 true (Qu 51)),
(Qa (Qu 51) (Qd Qs Go.BinOp.eql (Qm 50) (Qn (Qo (Qp (Qq Qt 0)))))),
(Qa (Qu 52) (Ql (Qm 49) (Qm 51) (Qn (Qo (Qp (Qr false)))))),
(Qa (Qu 6) (Qc (Qm 52)))]
def f7_c9 : MC := .reg false f7_r9
def f7_c10 : MC := MC.ret
def f7_c11 : MC := .seq f7_c9 f7_c10
def f7_c12 : MC := MC.skip
def f7_c13 : MC := .cond (Qm 39) f7_c11 f7_c12
def f7_c14 : MC := .seq f7_c8 f7_c13
def f7_r15 : List MO := [
(Qa (Qu 54) (Qe 2 true (Qm 3))),
(Qa (Qu 55) (Qc (Qm 8))),
(Qa (Qu 56) (Qg 21 [(Qm 54), (Qm 55)])),
(Qa (Qu 53) (Qc (Qm 56))),
(Qa (Qu 57) (Qh (Qm 53) 0)),
(Qa (Qu 58) (Qh (Qm 53) 1)),
(Qa (Qu 13) (Qc (Qm 57))),
(Qa (Qu 14) (Qc (Qm 58)))]
def f7_c15 : MC := .reg false f7_r15
def f7_r16 : List MO := [
(Qa (Qu 59) (Qc (Qm 2))),
(Qa (Qu 60) (Qd Qs Go.BinOp.lss (Qm 59) (Qn (Qo (Qp (Qq Qt 0)))))),
(Qa (Qu 61) (Qc (Qm 60))),
(Qb 61 false (Qu 62)),
(Qa (Qu 62) (Qc (Qm 2))),
(Qb 61 false (Qu 63)),
(Qa (Qu 63) (Qc (Qm 13))),
(Qb 61 false (Qu 64)),
(Qa (Qu 64) (Qj Qs (Qm 63))),
(Qb 61 false (Qu 65)),
(Qa (Qu 65) (Qd Qs Go.BinOp.geq (Qm 62) (Qm 64))),
(Qa (Qu 66) (Ql (Qm 61) (Qn (Qo (Qp (Qr true)))) (Qm 65)))]
def f7_c16 : MC := .reg false f7_r16
def f7_r17 : List MO := [
(Qa (Qu 67) (Qc (Qm 7))),
(Qa (Qu 68) (Qc (Qm 67))),
(Qb 68 true (Qu 69)),
(Qa (Qu 69) (Qc (Qm 14))),
(Qb 68 true (Qu 70)),
(Qa (Qu 70) (Qd Qs Go.BinOp.eql (Qm 69) (Qn (Qo (Qp (Qq Qt 0)))))),
(Qa (Qu 71) (Ql (Qm 68) (Qm 70) (Qn (Qo (Qp (Qr false)))))),
(Qa (Qu 72) (Qc (Qm 71))),
(Qb 72 true (Qu 73)),
(Qa (Qu 73) (Qc (Qm 12))),
(Qb 72 true (Qu 74)),
(Qa (Qu 74) (MOp.not (Qm 73))),
(Qa (Qu 75) (Ql (Qm 72) (Qm 74) (Qn (Qo (Qp (Qr false)))))),
(Qa (Qu 76) (Qc (Qm 75))),
(Qb 76 true (Qu 77)),
(Qa (Qu 77) (Qc (Qm 11))),
(Qb 76 true (Qu 78)),
(Qa (Qu 78) (Qd Qs Go.BinOp.eql (Qm 77) (Qn (Qo (Qp (Qq Qt 0)))))),
(Qa (Qu 79) (Ql (Qm 76) (Qm 78) (Qn (Qo (Qp (Qr false)))))),
(Qa (Qu 6) (Qc (Qm 79)))]
def f7_c17 : MC := .reg false f7_r17
def f7_c18 : MC := MC.ret
def f7_c19 : MC := .seq f7_c17 f7_c18
def f7_c20 : MC := MC.skip
def f7_c21 : MC := .cond (Qm 66) f7_c19 f7_c20
def f7_c22 : MC := .seq f7_c16 f7_c21
def f7_r23 : List MO := [
(Qa (Qu 80) (Qc (Qm 7))),
(Qa (Qu 81) (Qc (Qm 80))),
(Qb 81 true (Qu 82)),
(Qa (Qu 82) (Qc (Qm 14))),
(Qb 81 true (Qu 83)),
(Qa (Qu 83) (Qd Qs Go.BinOp.eql (Qm 82) (Qn (Qo (Qp (Qq Qt 0)))))),
(Qa (Qu 84) (Ql (Qm 81) (Qm 83) (Qn (Qo (Qp (Qr false)))))),
(Qa (Qu 85) (Qc (Qm 84))),
(Qb 85 true (Qu 86)),
(Qa (Qu 86) (Qc (Qm 12))),
(Qa (Qu 87) (Ql (Qm 85) (Qm 86) (Qn (Qo (Qp (Qr false)))))),
(Qa (Qu 88) (Qc (Qm 87))),
(Qb 88 true (Qu 89)),
(Qa (Qu 89) (Qc (Qm 11))),
(Qb 88 true (Qu 90)),
(Qa (Qu 90) (Qc (Qm 13))),
(Qb 88 true (Qu 91)),
(Qa (Qu 91) (Qc (Qm 2))),
(Qb 88 true (Qu 92)),
(Qa (Qu 92) (Qi 1 (Qm 90) (Qm 91))),
(Qb 88 true (Qu 93)),
(Qa (Qu 93) (Qe 1 false (Qm 92))),
(Qb 88 true (Qu 94)),
(Qa (Qu 94) (Qd Qs Go.BinOp.eql (Qm 89) (Qm 93))),
(Qa (Qu 95) (Ql (Qm 88) (Qm 94) (Qn (Qo (Qp (Qr false)))))),
(Qa (Qu 6) (Qc (Qm 95)))]
def f7_c23 : MC := .reg false f7_r23
def f7_c24 : MC := MC.ret
def f7_c25 : MC := .seq f7_c23 f7_c24
def f7_c26 : MC := .seq f7_c22 f7_c25
def f7_c27 : MC := .seq f7_c15 f7_c26
def f7_c28 : MC := .seq f7_c14 f7_c27
def f7_c29 : MC := .seq f7_c7 f7_c28
def f7_c30 : MC := .seq f7_c6 f7_c29
def f7_c31 : MC := .seq f7_c5 f7_c30
def f7_c32 : MC := .seq f7_c4 f7_c31
def f7_c33 : MC := .seq f7_c3 f7_c32
def f7_c34 : MC := .seq f7_c2 f7_c33
def f7_c35 : MC := .seq f7_c1 f7_c34
def f7_c36 : MC := .seq f7_c0 f7_c35
noncomputable def f7_code : Code := (Go.Proofs.Tryd.f7.body).getD .skip
theorem f7_body : Go.Proofs.Tryd.f7.body = Qu f7_code := by kernel_rfl
theorem f7_tr : trC Go.Proofs.Tryd.prog [] f7_code = Qu f7_c36 := by kernel_rfl
theorem f7_rs : rsOf Go.Proofs.Tryd.prog Go.Proofs.Tryd.f7.results.toList = Qu [(RV.t 6)] := by kernel_rfl
theorem f7_nt : Go.Proofs.Tryd.f7.ntmps = 96 := by kernel_rfl
theorem f7_ok : callable Go.Proofs.Tryd.prog 7 = true := by kernel_rfl
theorem f7_in {gp : Heap} {args : List V} {res : V} (h : G ⟨Go.Proofs.Tryd.prog, gp, 0, [(RV.t 6)], fun r c => r = res ∧ c = [], false⟩ [.code f7_c36, .fin] ⟨args ++ List.replicate (96 - args.length) .un, []⟩) : Does Go.Proofs.Tryd.prog gp 7 args res :=
  does_intro f7_ok Go.Proofs.Tryd.func7 f7_body f7_tr f7_rs (by rw [f7_nt]; exact h)
theorem f7_tri {gp : Heap} {args : List V} {pre : List Ch} {R : V → List Ch → Prop} (h : G ⟨Go.Proofs.Tryd.prog, gp, pre.length, [(RV.t 6)], R, false⟩ [.code f7_c36, .fin] ⟨args ++ List.replicate (96 - args.length) .un, pre⟩) : Tri Go.Proofs.Tryd.prog gp 7 args pre R :=
  tri_intro Go.Proofs.Tryd.func7 f7_body f7_tr f7_rs (by rw [f7_nt]; exact h)

/-! sigillary/sigillarylaw08.ReachLess -/
def f8_r0 : List MO := [
(Qa (Qu 2) (MOp.box (Qm 0))),
(Qa (Qu 4) (Qc (Qn (Qo (Qp (Qr false))))))]
def f8_c0 : MC := .reg false f8_r0
def f8_r1 : List MO := [
(Qa (Qu 11) (Qg 9 [])),
(Qa (Qu 5) (Qc (Qm 11)))]
def f8_c1 : MC := .reg false f8_r1
def f8_r2 : List MO := [
(Qa (Qu 12) (Qe 2 true (Qm 2))),
(Qa (Qu 13) (Qg 10 [(Qm 12)])),
(Qa none (Qk 2 (Qm 2) (Qm 13)))]
def f8_c2 : MC := .reg false f8_r2
def f8_r3 : List MO := [
(Qa (Qu 15) (Qe 2 true (Qm 2))),
(Qa (Qu 16) (Qg 12 [(Qm 15)])),
(Qa (Qu 14) (Qc (Qm 16))),
(Qa (Qu 17) (Qh (Qm 14) 0)),
(Qa (Qu 18) (Qh (Qm 14) 1)),
(Qa (Qu 6) (Qc (Qm 17))),
(Qa (Qu 7) (Qc (Qm 18)))]
def f8_c3 : MC := .reg false f8_r3
def f8_r4 : List MO := [
(Qa (Qu 19) (Qc (Qm 7))),
(Qa (Qu 20) (Qd Qs Go.BinOp.neq (Qm 19) (Qn (Qo (Qp (Qq Qt 0)))))),
(Qa (Qu 21) (Qc (Qm 20))),
(Qb 21 false (Qu 22)),
(Qa (Qu 22) (Qc (Qm 1))),
(Qb 21 false (Qu 23)),
(Qa (Qu 23) (Qd Qs Go.BinOp.lss (Qm 22) (Qn (Qo (Qp (Qq Qt 0)))))),
(Qa (Qu 24) (Ql (Qm 21) (Qn (Qo (Qp (Qr true)))) (Qm 23))),
(Qa (Qu 25) (Qc (Qm 24))),
(Qb 25 false (Qu 26)),
(Qa (Qu 26) (Qc (Qm 1))),
(Qb 25 false (Qu 27)),
(Qa (Qu 27) (Qc (Qm 6))),
(Qb 25 false (Qu 28)),
(Qa (Qu 28) (Qj Qs (Qm 27))),
(Qb 25 false (Qu 29)),
(Qa (Qu 29) (Qd Qs Go.BinOp.geq (Qm 26) (Qm 28))),
(Qa (Qu 30) (Ql (Qm 25) (Qn (Qo (Qp (Qr true)))) (Qm 29)))]
def f8_c4 : MC := .reg false f8_r4
def f8_r5 : List MO := [
(Qa (Qu 31) (Qc (Qm 5))),
(Qa (Qu 4) (Qc (Qm 31)))]
def f8_c5 : MC := .reg false f8_r5
def f8_c6 : MC := MC.ret
def f8_c7 : MC := .seq f8_c5 f8_c6
def f8_c8 : MC := MC.skip
def f8_c9 : MC := .cond (Qm 30) f8_c7 f8_c8
def f8_c10 : MC := .seq f8_c4 f8_c9
def f8_r11 : List MO := [
(Qa (Qu 33) (Qc (Qm 6))),
(Qa (Qu 34) (Qc (Qm 1))),
(Qa (Qu 35) (Qi 1 (Qm 33) (Qm 34))),
(Qa (Qu 36) (Qe 1 false (Qm 35))),
(Qa (Qu 37) (Qf 1 (Qm 2))),
(Qa (Qu 38) (Qe 1 false (Qm 37))),
(Qa (Qu 39) (MOp.build [(Qq Qt 0), (D.sl [])] [(0, (1, (Qm 36))), (1, (1, (Qm 38)))])),
(Qa (Qu 40) (Qg 12 [(Qm 39)])),
(Qa (Qu 32) (Qc (Qm 40))),
(Qa (Qu 41) (Qh (Qm 32) 0)),
(Qa (Qu 42) (Qh (Qm 32) 1)),
(Qa (Qu 8) (Qc (Qm 41))),
(Qa (Qu 9) (Qc (Qm 42)))]
def f8_c11 : MC := .reg true f8_r11
def f8_r12 : List MO := [
(Qa (Qu 10) (Qc (Qn (Qo (Qp (Qq Qt 0))))))]
def f8_c12 : MC := .reg false f8_r12
def f8_r13 : List MO := [
(Qa (Qu 43) (Qc (Qm 10))),
(Qa (Qu 44) (Qc (Qm 8))),
(Qa (Qu 45) (Qj Qs (Qm 44))),
(Qa (Qu 46) (Qd Qs Go.BinOp.lss (Qm 43) (Qm 45)))]
def f8_c13 : MC := .reg false f8_r13
def f8_c14 : MC := MC.skip
def f8_c15 : MC := (MC.exit 0)
def f8_c16 : MC := .cond (Qm 46) f8_c14 f8_c15
def f8_c17 : MC := .seq f8_c13 f8_c16
def f8_r18 : List MO := [
(Qa (Qu 49) (Qc (Qm 6))),
(Qa (Qu 50) (Qc (Qm 8))),
(Qa (Qu 51) (Qc (Qm 10))),
(Qa (Qu 52) (Qi 1 (Qm 50) (Qm 51))),
(Qa (Qu 53) (Qe 1 false (Qm 52))),
(Qa (Qu 54) (Qg 20 [(Qm 49), (Qm 53)])),
(Qa (Qu 55) (Qd Qs Go.BinOp.lss (Qm 54) (Qn (Qo (Qp (Qq Qt 0))))))]
def f8_c18 : MC := .reg false f8_r18
def f8_r19 : List MO := [
(Qa (Qu 4) (Qc (Qn (Qo (Qp (Qr false))))))]
def f8_c19 : MC := .reg false f8_r19
def f8_c20 : MC := MC.ret
def f8_c21 : MC := .seq f8_c19 f8_c20
def f8_c22 : MC := MC.skip
def f8_c23 : MC := .cond (Qm 55) f8_c21 f8_c22
def f8_c24 : MC := .seq f8_c18 f8_c23
def f8_c25 : MC := .blk 1 f8_c24
def f8_r26 : List MO := [
(Qa (Qu 47) (Qc (Qm 10))),
(Qa (Qu 48) (Qd Qs Go.BinOp.add (Qm 47) (Qn (Qo (Qp (Qq Qt 1)))))),
(Qa (Qu 10) (Qc (Qm 48)))]
def f8_c26 : MC := .reg false f8_r26
def f8_c27 : MC := .seq f8_c25 f8_c26
def f8_c28 : MC := .seq f8_c17 f8_c27
def f8_c29 : MC := .loop f8_c28
def f8_c30 : MC := .blk 0 f8_c29
def f8_c31 : MC := .seq f8_c12 f8_c30
def f8_r32 : List MO := [
(Qa (Qu 56) (Qc (Qm 5))),
(Qa (Qu 57) (Qc (Qm 56))),
(Qb 57 true (Qu 58)),
(Qa (Qu 58) (Qc (Qm 9))),
(Qb 57 true (Qu 59)),
(Qa (Qu 59) (Qd Qs Go.BinOp.eql (Qm 58) (Qn (Qo (Qp (Qq Qt 0)))))),
(Qa (Qu 60) (Ql (Qm 57) (Qm 59) (Qn (Qo (Qp (Qr false)))))),
(Qa (Qu 61) (Qc (Qm 60))),
(Qb 61 true (Qu 62)),
(Qa (Qu 62) (Qc (Qm 8))),
(Qb 61 true (Qu 63)),
(Qa (Qu 63) (Qj Qs (Qm 62))),
(Qb 61 true (Qu 64)),
(Qa (Qu 64) (Qd Qs Go.BinOp.gtr (Qm 63) (Qn (Qo (Qp (Qq Qt 0)))))),
(Qa (Qu 65) (Ql (Qm 61) (Qm 64) (Qn (Qo (Qp (Qr false)))))),
(Qa (Qu 66) (Qc (Qm 65))),
(Qb 66 true (Qu 67)),
(Qa (Qu 67) (Qc (Qm 8))),
(Qb 66 true (Qu 68)),
(Qa (Qu 68) (Qi 1 (Qm 67) (Qn (Qo (Qp (Qq Qt 0)))))),
(Qb 66 true (Qu 69)),
(Qa (Qu 69) (Qe 1 false (Qm 68))),
(Qb 66 true (Qu 70)),
(Qa (Qu 70) (Qc (Qm 6))),
(Qb 66 true (Qu 71)),
(Qa (Qu 71) (Qc (Qm 1))),
(Qb 66 true (Qu 72)),
(Qa (Qu 72) (Qi 1 (Qm 70) (Qm 71))),
(Qb 66 true (Qu 73)),
(Qa (Qu 73) (Qe 1 false (Qm 72))),
(Qb 66 true (Qu 74)),
(Qa (Qu 74) (Qd Qs Go.BinOp.eql (Qm 69) (Qm 73))),
(Qa (Qu 75) (Ql (Qm 66) (Qm 74) (Qn (Qo (Qp (Qr false)))))),
(Qa (Qu 4) (Qc (Qm 75)))]
def f8_c32 : MC := .reg true f8_r32
def f8_c33 : MC := MC.ret
def f8_c34 : MC := .seq f8_c32 f8_c33
def f8_c35 : MC := .seq f8_c31 f8_c34
def f8_c36 : MC := .seq f8_c11 f8_c35
def f8_c37 : MC := .seq f8_c10 f8_c36
def f8_c38 : MC := .seq f8_c3 f8_c37
def f8_c39 : MC := .seq f8_c2 f8_c38
def f8_c40 : MC := .seq f8_c1 f8_c39
def f8_c41 : MC := .seq f8_c0 f8_c40
noncomputable def f8_code : Code := (Go.Proofs.Tryd.f8.body).getD .skip
theorem f8_body : Go.Proofs.Tryd.f8.body = Qu f8_code := by kernel_rfl
theorem f8_tr : trC Go.Proofs.Tryd.prog [] f8_code = Qu f8_c41 := by kernel_rfl
theorem f8_rs : rsOf Go.Proofs.Tryd.prog Go.Proofs.Tryd.f8.results.toList = Qu [(RV.t 4)] := by kernel_rfl
theorem f8_nt : Go.Proofs.Tryd.f8.ntmps = 76 := by kernel_rfl
theorem f8_ok : callable Go.Proofs.Tryd.prog 8 = true := by kernel_rfl
theorem f8_in {gp : Heap} {args : List V} {res : V} (h : G ⟨Go.Proofs.Tryd.prog, gp, 0, [(RV.t 4)], fun r c => r = res ∧ c = [], false⟩ [.code f8_c41, .fin] ⟨args ++ List.replicate (76 - args.length) .un, []⟩) : Does Go.Proofs.Tryd.prog gp 8 args res :=
  does_intro f8_ok Go.Proofs.Tryd.func8 f8_body f8_tr f8_rs (by rw [f8_nt]; exact h)
theorem f8_tri {gp : Heap} {args : List V} {pre : List Ch} {R : V → List Ch → Prop} (h : G ⟨Go.Proofs.Tryd.prog, gp, pre.length, [(RV.t 4)], R, false⟩ [.code f8_c41, .fin] ⟨args ++ List.replicate (76 - args.length) .un, pre⟩) : Tri Go.Proofs.Tryd.prog gp 8 args pre R :=
  tri_intro Go.Proofs.Tryd.func8 f8_body f8_tr f8_rs (by rw [f8_nt]; exact h)

/-! sigillary/sigillarylaw08.shown -/
def f9_r0 : List MO := [
(Qa (Qu 0) (Qc (Qn (Qo (Qp (Qr false))))))]
def f9_c0 : MC := .reg false f9_r0
def f9_r1 : List MO := [
(Qa (Qu 10) (MOp.build [(Qq Qt 0), (Qq Qt 0), (Qq Qt 0), (D.str (ByteArray.mk #[])), (D.sl []), (D.sl [])] [])),
(Qa (Qu 11) (MOp.build [(Qq Qt 0), (Qq Qt 0), (Qq Qt 0), (D.str (ByteArray.mk #[])), (D.sl []), (D.sl [])] [])),
(Qa (Qu 12) (MOp.bslice 1 [(Qq Qt 0)] 2 [(0, (Qn (Qo (Qp (Qq Qt 0))))), (1, (Qn (Qo (Qp (Qq Qt 2)))))])),
(Qa (Qu 13) (MOp.build [(Qq Qt 0), (Qq Qt 0), (Qq Qt 0), (D.str (ByteArray.mk #[])), (D.sl []), (D.sl [])] [(0, (1, (Qn (Qo (Qp (Qq Qt 1)))))), (5, (1, (Qm 12)))])),
(Qa (Qu 14) (MOp.bslice 6 [(Qq Qt 0), (Qq Qt 0), (Qq Qt 0), (D.str (ByteArray.mk #[])), (D.sl []), (D.sl [])] 3 [(0, (Qm 10)), (1, (Qm 11)), (2, (Qm 13))])),
(Qa (Qu 15) (MOp.build [(Qq Qt 0), (D.sl [])] [(0, (1, (Qn (Qo (Qp (Qq Qt 2)))))), (1, (1, (Qm 14)))])),
(Qa (Qu 1) (MOp.alloc [(Qq Qt 0), (D.sl [])])),
(Qa none (Qk 2 (Qm 1) (Qm 15)))]
def f9_c1 : MC := .reg false f9_r1
def f9_r2 : List MO := [
(Qa (Qu 17) (Qe 2 true (Qm 1))),
(Qa (Qu 18) (Qg 12 [(Qm 17)])),
(Qa (Qu 16) (Qc (Qm 18))),
(Qa (Qu 19) (Qh (Qm 16) 0)),
(Qa (Qu 20) (Qh (Qm 16) 1)),
(Qa (Qu 2) (Qc (Qm 19))),
(Qa (Qu 3) (Qc (Qm 20)))]
def f9_c2 : MC := .reg false f9_r2
def f9_r3 : List MO := [
(Qa (Qu 22) (Qe 2 true (Qm 1))),
(Qa (Qu 23) (Qg 11 [(Qm 22)])),
(Qa (Qu 21) (Qc (Qm 23))),
(Qa (Qu 24) (Qh (Qm 21) 0)),
(Qa (Qu 25) (Qh (Qm 21) 1)),
(Qa (Qu 4) (MOp.alloc [(Qq Qt 0), (D.sl [])])),
(Qa none (Qk 2 (Qm 4) (Qm 24))),
(Qa (Qu 5) (Qc (Qm 25)))]
def f9_c3 : MC := .reg false f9_r3
def f9_r4 : List MO := [
(Qa (Qu 27) (Qe 2 true (Qm 1))),
(Qa (Qu 28) (MOp.bslice 1 [(Qq Qt 0)] 3 [(0, (Qn (Qo (Qp (Qq Qt 1))))), (1, (Qn (Qo (Qp (Qq Qt 1))))), (2, (Qn (Qo (Qp (Qq Qt 0)))))])),
(Qa (Qu 29) (Qg 17 [(Qm 27), (Qm 28)])),
(Qa (Qu 26) (Qc (Qm 29))),
(Qa (Qu 30) (Qh (Qm 26) 0)),
(Qa (Qu 31) (Qh (Qm 26) 1)),
(Qa (Qu 6) (Qc (Qm 30))),
(Qa (Qu 7) (Qc (Qm 31)))]
def f9_c4 : MC := .reg false f9_r4
def f9_r5 : List MO := [
(Qa (Qu 33) (Qe 2 true (Qm 1))),
(Qa (Qu 34) (MOp.bslice 1 [(Qq Qt 0)] 1 [(0, (Qn (Qo (Qp (Qq Qt 2)))))])),
(Qa (Qu 35) (Qg 17 [(Qm 33), (Qm 34)])),
(Qa (Qu 32) (Qc (Qm 35))),
(Qa (Qu 36) (Qh (Qm 32) 0)),
(Qa (Qu 37) (Qh (Qm 32) 1)),
(Qa (Qu 8) (Qc (Qm 36))),
(Qa (Qu 9) (Qc (Qm 37)))]
def f9_c5 : MC := .reg false f9_r5
def f9_r6 : List MO := [
(Qa (Qu 38) (Qc (Qm 3))),
(Qa (Qu 39) (Qd Qs Go.BinOp.eql (Qm 38) (Qn (Qo (Qp (Qq Qt 0)))))),
(Qa (Qu 40) (Qc (Qm 39))),
(Qb 40 true (Qu 41)),
(Qa (Qu 41) (Qc (Qm 2))),
(Qb 40 true (Qu 42)),
(Qa (Qu 42) (MOp.bslice 1 [(Qq Qt 0)] 2 [(0, (Qn (Qo (Qp (Qq Qt 2))))), (1, (Qn (Qo (Qp (Qq Qt 0)))))])),
(Qb 40 true (Qu 43)),
(Qa (Qu 43) (Qg 22 [(Qm 41), (Qm 42)])),
(Qa (Qu 44) (Ql (Qm 40) (Qm 43) (Qn (Qo (Qp (Qr false)))))),
(Qa (Qu 45) (Qc (Qm 44))),
(Qb 45 true (Qu 46)),
(Qa (Qu 46) (Qc (Qm 5))),
(Qb 45 true (Qu 47)),
(Qa (Qu 47) (Qd Qs Go.BinOp.eql (Qm 46) (Qn (Qo (Qp (Qq Qt 0)))))),
(Qa (Qu 48) (Ql (Qm 45) (Qm 47) (Qn (Qo (Qp (Qr false)))))),
(Qa (Qu 49) (Qc (Qm 48))),
(Qb 49 true (Qu 50)),
(Qa (Qu 50) (Qf 1 (Qm 4))),
(Qb 49 true (Qu 51)),
(Qa (Qu 51) (Qe 1 false (Qm 50))),
(Qb 49 true (Qu 52)),
(Qa (Qu 52) (Qj Qs (Qm 51))),
(Qb 49 true (Qu 53)),
(Qa (Qu 53) (Qd Qs Go.BinOp.eql (Qm 52) (Qn (Qo (Qp (Qq Qt 2)))))),
(Qa (Qu 54) (Ql (Qm 49) (Qm 53) (Qn (Qo (Qp (Qr false)))))),
(Qa (Qu 55) (Qc (Qm 54))),
(Qb 55 true (Qu 56)),
(Qa (Qu 56) (Qf 1 (Qm 4))),
(Qb 55 true (Qu 57)),
(Qa (Qu 57) (Qe 1 false (Qm 56))),
(Qb 55 true (Qu 58)),
(Qa (Qu 58) (Qi 6 (Qm 57) (Qn (Qo (Qp (Qq Qt 0)))))),
(Qb 55 true (Qu 59)),
(Qa (Qu 59) (Qf 5 (Qm 58))),
(Qb 55 true (Qu 60)),
(Qa (Qu 60) (Qe 1 false (Qm 59))),
(Qb 55 true (Qu 61)),
(Qa (Qu 61) (MOp.bslice 1 [(Qq Qt 0)] 2 [(0, (Qn (Qo (Qp (Qq Qt 1))))), (1, (Qn (Qo (Qp (Qq Qt 0)))))])),
(Qb 55 true (Qu 62)),
(Qa (Qu 62) (Qg 22 [(Qm 60), (Qm 61)])),
(Qa (Qu 63) (Ql (Qm 55) (Qm 62) (Qn (Qo (Qp (Qr false)))))),
(Qa (Qu 64) (Qc (Qm 63))),
(Qb 64 true (Qu 65)),
(Qa (Qu 65) (Qc (Qm 6))),
(Qb 64 true (Qu 66)),
(Qa (Qu 66) (Qd Qs Go.BinOp.eql (Qm 65) (Qn (Qo (Qp (Qq Qt 0)))))),
(Qa (Qu 67) (Ql (Qm 64) (Qm 66) (Qn (Qo (Qp (Qr false)))))),
(Qa (Qu 68) (Qc (Qm 67))),
(Qb 68 true (Qu 69)),
(Qa (Qu 69) (Qc (Qm 7))),
(Qa (Qu 70) (Ql (Qm 68) (Qm 69) (Qn (Qo (Qp (Qr false)))))),
(Qa (Qu 71) (Qc (Qm 70))),
(Qb 71 true (Qu 72)),
(Qa (Qu 72) (Qc (Qm 9))),
(Qb 71 true (Qu 73)),
(Qa (Qu 73) (MOp.not (Qm 72))),
(Qa (Qu 74) (Ql (Qm 71) (Qm 73) (Qn (Qo (Qp (Qr false)))))),
(Qa (Qu 75) (Qc (Qm 74))),
(Qb 75 true (Qu 76)),
(Qa (Qu 76) (Qe 2 true (Qm 4))),
(Qb 75 true (Qu 77)),
(Qa (Qu 77) (Qg 14 [(Qm 76)])),
(Qa (Qu 78) (Ql (Qm 75) (Qm 77) (Qn (Qo (Qp (Qr false)))))),
(Qa (Qu 79) (Qc (Qm 78))),
(Qb 79 true (Qu 80)),
(Qa (Qu 80) (Qe 2 true (Qm 1))),
(Qb 79 true (Qu 81)),
(Qa (Qu 81) (Qg 14 [(Qm 80)])),
(Qb 79 true (Qu 82)),
(Qa (Qu 82) (MOp.not (Qm 81))),
(Qa (Qu 83) (Ql (Qm 79) (Qm 82) (Qn (Qo (Qp (Qr false)))))),
(Qa (Qu 0) (Qc (Qm 83)))]
def f9_c6 : MC := .reg false f9_r6
def f9_c7 : MC := MC.ret
def f9_c8 : MC := .seq f9_c6 f9_c7
def f9_c9 : MC := .seq f9_c5 f9_c8
def f9_c10 : MC := .seq f9_c4 f9_c9
def f9_c11 : MC := .seq f9_c3 f9_c10
def f9_c12 : MC := .seq f9_c2 f9_c11
def f9_c13 : MC := .seq f9_c1 f9_c12
def f9_c14 : MC := .seq f9_c0 f9_c13
noncomputable def f9_code : Code := (Go.Proofs.Tryd.f9.body).getD .skip
theorem f9_body : Go.Proofs.Tryd.f9.body = Qu f9_code := by kernel_rfl
theorem f9_tr : trC Go.Proofs.Tryd.prog [] f9_code = Qu f9_c14 := by kernel_rfl
theorem f9_rs : rsOf Go.Proofs.Tryd.prog Go.Proofs.Tryd.f9.results.toList = Qu [(RV.t 0)] := by kernel_rfl
theorem f9_nt : Go.Proofs.Tryd.f9.ntmps = 84 := by kernel_rfl
theorem f9_ok : callable Go.Proofs.Tryd.prog 9 = true := by kernel_rfl
theorem f9_in {gp : Heap} {args : List V} {res : V} (h : G ⟨Go.Proofs.Tryd.prog, gp, 0, [(RV.t 0)], fun r c => r = res ∧ c = [], false⟩ [.code f9_c14, .fin] ⟨args ++ List.replicate (84 - args.length) .un, []⟩) : Does Go.Proofs.Tryd.prog gp 9 args res :=
  does_intro f9_ok Go.Proofs.Tryd.func9 f9_body f9_tr f9_rs (by rw [f9_nt]; exact h)
theorem f9_tri {gp : Heap} {args : List V} {pre : List Ch} {R : V → List Ch → Prop} (h : G ⟨Go.Proofs.Tryd.prog, gp, pre.length, [(RV.t 0)], R, false⟩ [.code f9_c14, .fin] ⟨args ++ List.replicate (84 - args.length) .un, pre⟩) : Tri Go.Proofs.Tryd.prog gp 9 args pre R :=
  tri_intro Go.Proofs.Tryd.func9 f9_body f9_tr f9_rs (by rw [f9_nt]; exact h)

/-! sigillary/reach.Tidy -/
def f11_r0 : List MO := [
(Qa (Qu 1) (MOp.ibox (Qm 0))),
(Qa (Qu 2) (MOp.alloc [(Qq Qt 0), (D.sl [])])),
(Qa (Qu 3) (Qc (Qn (Qo (Qp (Qq Qt 0))))))]
def f11_c0 : MC := .reg false f11_r0
def f11_r1 : List MO := [
(Qa (Qu 14) (Qe 2 true (Qm 1))),
(Qa (Qu 15) (Qg 13 [(Qm 14)])),
(Qa (Qu 13) (Qc (Qm 15))),
(Qa (Qu 16) (Qh (Qm 13) 0)),
(Qa (Qu 17) (Qh (Qm 13) 1)),
(Qa (Qu 4) (Qc (Qm 16))),
(Qa (Qu 5) (Qc (Qm 17)))]
def f11_c1 : MC := .reg false f11_r1
def f11_r2 : List MO := [
(Qa (Qu 18) (Qc (Qm 5))),
(Qa (Qu 19) (Qd Qs Go.BinOp.neq (Qm 18) (Qn (Qo (Qp (Qq Qt 0))))))]
def f11_c2 : MC := .reg false f11_r2
def f11_r3 : List MO := [
(Qa (Qu 20) (MOp.build [(Qq Qt 0), (D.sl [])] [])),
(Qa (Qu 21) (Qc (Qm 5))),
(Qa none (Qk 2 (Qm 2) (Qm 20))),
(Qa (Qu 3) (Qc (Qm 21)))]
def f11_c3 : MC := .reg false f11_r3
def f11_c4 : MC := MC.ret
def f11_c5 : MC := .seq f11_c3 f11_c4
def f11_c6 : MC := MC.skip
def f11_c7 : MC := .cond (Qm 19) f11_c5 f11_c6
def f11_c8 : MC := .seq f11_c2 f11_c7
def f11_c9 : MC := .seq f11_c1 f11_c8
def f11_r10 : List MO := [
(Qa (Qu 22) (Qe 2 true (Qm 1))),
(Qa (Qu 23) (Qg 24 [(Qm 22)])),
(Qa (Qu 6) (Qc (Qm 23)))]
def f11_c10 : MC := .reg false f11_r10
def f11_r11 : List MO := [
(Qa (Qu 7) (MOp.alloc [(Qq Qt 0), (D.sl [])]))]
def f11_c11 : MC := .reg false f11_r11
def f11_r12 : List MO := [
(Qa (Qu 24) (Qc (Qm 6))),
(Qa (Qu 25) (Qg 25 [(Qm 24)])),
(Qa (Qu 26) (Qj Qs (Qm 25))),
(Qa (Qu 27) (Qc (Qn (Qo (Qp (Qq Qt 0))))))]
def f11_c12 : MC := .reg false f11_r12
def f11_r13 : List MO := [
(Qa (Qu 28) (Qd Qs Go.BinOp.lss (Qm 27) (Qm 26)))]
def f11_c13 : MC := .reg false f11_r13
def f11_c14 : MC := MC.skip
def f11_c15 : MC := (MC.exit 0)
def f11_c16 : MC := .cond (Qm 28) f11_c14 f11_c15
def f11_r17 : List MO := [
(Qa (Qu 29) (Qi 1 (Qm 25) (Qm 27))),
(Qa (Qu 30) (Qe 1 false (Qm 29))),
(Qa (Qu 9) (Qc (Qm 30)))]
def f11_c17 : MC := .reg false f11_r17
def f11_r18 : List MO := [
(Qa (Qu 31) (Qf 1 (Qm 1))),
(Qa (Qu 32) (Qe 1 false (Qm 31))),
(Qa (Qu 33) (Qc (Qm 9))),
(Qa (Qu 34) (Qi 6 (Qm 32) (Qm 33))),
(Qa (Qu 35) (Qf 0 (Qm 34))),
(Qa (Qu 36) (Qe 1 false (Qm 35))),
(Qa (Qu 37) (Qf 1 (Qm 1))),
(Qa (Qu 38) (Qe 1 false (Qm 37))),
(Qa (Qu 39) (Qc (Qm 9))),
(Qa (Qu 40) (Qi 6 (Qm 38) (Qm 39))),
(Qa (Qu 41) (Qf 1 (Qm 40))),
(Qa (Qu 42) (Qe 3 true (Qm 41))),
(Qa (Qu 43) (MOp.build [(Qq Qt 0), (Qq Qt 0), (Qq Qt 0), (D.str (ByteArray.mk #[])), (D.sl []), (D.sl [])] [(0, (1, (Qm 36))), (1, (3, (Qm 42)))])),
(Qa (Qu 10) (MOp.alloc [(Qq Qt 0), (Qq Qt 0), (Qq Qt 0), (D.str (ByteArray.mk #[])), (D.sl []), (D.sl [])])),
(Qa none (Qk 6 (Qm 10) (Qm 43)))]
def f11_c18 : MC := .reg true f11_r18
def f11_r19 : List MO := [
(Qa (Qu 45) (Qe 2 true (Qm 1))),
(Qa (Qu 46) (Qc (Qm 9))),
(Qa (Qu 47) (Qg 18 [(Qm 45), (Qm 46)])),
(Qa (Qu 44) (Qc (Qm 47))),
(Qa (Qu 48) (Qh (Qm 44) 0)),
(Qa (Qu 49) (Qh (Qm 44) 1)),
(Qa (Qu 50) (Qf 4 (Qm 10))),
(Qa none (Qk 1 (Qm 50) (Qm 48)))]
def f11_c19 : MC := .reg false f11_r19
def f11_r20 : List MO := [
(Qa (Qu 52) (Qe 2 true (Qm 1))),
(Qa (Qu 53) (Qc (Qm 9))),
(Qa (Qu 54) (Qg 21 [(Qm 52), (Qm 53)])),
(Qa (Qu 51) (Qc (Qm 54))),
(Qa (Qu 55) (Qh (Qm 51) 0)),
(Qa (Qu 56) (Qh (Qm 51) 1)),
(Qa (Qu 11) (Qc (Qm 55))),
(Qa (Qu 12) (Qc (Qm 56)))]
def f11_c20 : MC := .reg false f11_r20
def f11_r21 : List MO := [
(Qa (Qu 57) (Qc (Qm 6))),
(Qa (Qu 58) (Qc (Qm 11))),
(Qa (Qu 59) (Qg 26 [(Qm 57), (Qm 58)])),
(Qa (Qu 60) (Qf 5 (Qm 10))),
(Qa none (Qk 1 (Qm 60) (Qm 59)))]
def f11_c21 : MC := .reg false f11_r21
def f11_r22 : List MO := [
(Qa (Qu 61) (Qf 1 (Qm 7))),
(Qa (Qu 62) (Qe 1 false (Qm 61))),
(Qa (Qu 63) (Qe 6 true (Qm 10))),
(Qa (Qu 64) (MOp.bslice 6 [(Qq Qt 0), (Qq Qt 0), (Qq Qt 0), (D.str (ByteArray.mk #[])), (D.sl []), (D.sl [])] 1 [(0, (Qm 63))])),
(Qa (Qu 65) (MOp.app 6 88 (Qm 62) (Qm 64))),
(Qa (Qu 66) (Qf 1 (Qm 7))),
(Qa none (Qk 1 (Qm 66) (Qm 65)))]
def f11_c22 : MC := .reg false f11_r22
def f11_c23 : MC := .seq f11_c21 f11_c22
def f11_c24 : MC := .seq f11_c20 f11_c23
def f11_c25 : MC := .seq f11_c19 f11_c24
def f11_c26 : MC := .seq f11_c18 f11_c25
def f11_c27 : MC := .seq f11_c17 f11_c26
def f11_c28 : MC := .blk 1 f11_c27
def f11_r29 : List MO := [
(Qa (Qu 67) (Qd Qs Go.BinOp.add (Qm 27) (Qn (Qo (Qp (Qq Qt 1)))))),
(Qa (Qu 27) (Qc (Qm 67)))]
def f11_c29 : MC := .reg false f11_r29
def f11_c30 : MC := .seq f11_c28 f11_c29
def f11_c31 : MC := .seq f11_c16 f11_c30
def f11_c32 : MC := .seq f11_c13 f11_c31
def f11_c33 : MC := .loop f11_c32
def f11_c34 : MC := .blk 0 f11_c33
def f11_c35 : MC := .seq f11_c12 f11_c34
def f11_r36 : List MO := [
(Qa (Qu 68) (Qe 2 true (Qm 7))),
(Qa none (Qk 2 (Qm 2) (Qm 68))),
(Qa (Qu 3) (Qc (Qn (Qo (Qp (Qq Qt 0))))))]
def f11_c36 : MC := .reg false f11_r36
def f11_c37 : MC := MC.ret
def f11_c38 : MC := .seq f11_c36 f11_c37
def f11_c39 : MC := .seq f11_c35 f11_c38
def f11_c40 : MC := .seq f11_c11 f11_c39
def f11_c41 : MC := .seq f11_c10 f11_c40
def f11_c42 : MC := .seq f11_c9 f11_c41
def f11_c43 : MC := .seq f11_c0 f11_c42
noncomputable def f11_code : Code := (Go.Proofs.Tryd.f11.body).getD .skip
theorem f11_body : Go.Proofs.Tryd.f11.body = Qu f11_code := by kernel_rfl
theorem f11_tr : trC Go.Proofs.Tryd.prog [1] f11_code = Qu f11_c43 := by kernel_rfl
theorem f11_rs : rsOf Go.Proofs.Tryd.prog Go.Proofs.Tryd.f11.results.toList = Qu [(RV.cell 2 2 true), (RV.t 3)] := by kernel_rfl
theorem f11_nt : Go.Proofs.Tryd.f11.ntmps = 69 := by kernel_rfl
theorem f11_ok : callable Go.Proofs.Tryd.prog 11 = true := by kernel_rfl
theorem f11_in {gp : Heap} {args : List V} {res : V} (h : G ⟨Go.Proofs.Tryd.prog, gp, 0, [(RV.cell 2 2 true), (RV.t 3)], fun r c => r = res ∧ c = [], false⟩ [.code f11_c43, .fin] ⟨args ++ List.replicate (69 - args.length) .un, []⟩) : Does Go.Proofs.Tryd.prog gp 11 args res :=
  does_intro f11_ok Go.Proofs.Tryd.func11 f11_body f11_tr f11_rs (by rw [f11_nt]; exact h)
theorem f11_tri {gp : Heap} {args : List V} {pre : List Ch} {R : V → List Ch → Prop} (h : G ⟨Go.Proofs.Tryd.prog, gp, pre.length, [(RV.cell 2 2 true), (RV.t 3)], R, false⟩ [.code f11_c43, .fin] ⟨args ++ List.replicate (69 - args.length) .un, pre⟩) : Tri Go.Proofs.Tryd.prog gp 11 args pre R :=
  tri_intro Go.Proofs.Tryd.func11 f11_body f11_tr f11_rs (by rw [f11_nt]; exact h)

/-! sigillary/reach.Walk -/
def f12_r0 : List MO := [
(Qa (Qu 1) (MOp.ibox (Qm 0))),
(Qa (Qu 2) (Qc (Qn (Qo A.nil)))),
(Qa (Qu 3) (Qc (Qn (Qo (Qp (Qq Qt 0))))))]
def f12_c0 : MC := .reg false f12_r0
def f12_r1 : List MO := [
(Qa (Qu 7) (Qe 2 true (Qm 1))),
(Qa (Qu 8) (Qg 13 [(Qm 7)])),
(Qa (Qu 6) (Qc (Qm 8))),
(Qa (Qu 9) (Qh (Qm 6) 0)),
(Qa (Qu 10) (Qh (Qm 6) 1)),
(Qa (Qu 4) (Qc (Qm 9))),
(Qa (Qu 5) (Qc (Qm 10)))]
def f12_c1 : MC := .reg false f12_r1
def f12_r2 : List MO := [
(Qa (Qu 11) (Qc (Qm 5))),
(Qa (Qu 12) (Qd Qs Go.BinOp.neq (Qm 11) (Qn (Qo (Qp (Qq Qt 0))))))]
def f12_c2 : MC := .reg false f12_r2
def f12_r3 : List MO := [
(Qa (Qu 13) (Qc (Qm 5))),
(Qa (Qu 2) (Qc (Qn (Qo A.nil)))),
(Qa (Qu 3) (Qc (Qm 13)))]
def f12_c3 : MC := .reg false f12_r3
def f12_c4 : MC := MC.ret
def f12_c5 : MC := .seq f12_c3 f12_c4
def f12_c6 : MC := MC.skip
def f12_c7 : MC := .cond (Qm 12) f12_c5 f12_c6
def f12_c8 : MC := .seq f12_c2 f12_c7
def f12_c9 : MC := .seq f12_c1 f12_c8
def f12_r10 : List MO := [
(Qa (Qu 14) (Qe 2 true (Qm 1))),
(Qa (Qu 15) (Qg 24 [(Qm 14)])),
(Qa (Qu 16) (Qg 25 [(Qm 15)])),
(Qa (Qu 2) (Qc (Qm 16))),
(Qa (Qu 3) (Qc (Qn (Qo (Qp (Qq Qt 0))))))]
def f12_c10 : MC := .reg false f12_r10
def f12_c11 : MC := MC.ret
def f12_c12 : MC := .seq f12_c10 f12_c11
def f12_c13 : MC := .seq f12_c9 f12_c12
def f12_c14 : MC := .seq f12_c0 f12_c13
noncomputable def f12_code : Code := (Go.Proofs.Tryd.f12.body).getD .skip
theorem f12_body : Go.Proofs.Tryd.f12.body = Qu f12_code := by kernel_rfl
theorem f12_tr : trC Go.Proofs.Tryd.prog [1] f12_code = Qu f12_c14 := by kernel_rfl
theorem f12_rs : rsOf Go.Proofs.Tryd.prog Go.Proofs.Tryd.f12.results.toList = Qu [(RV.t 2), (RV.t 3)] := by kernel_rfl
theorem f12_nt : Go.Proofs.Tryd.f12.ntmps = 17 := by kernel_rfl
theorem f12_ok : callable Go.Proofs.Tryd.prog 12 = true := by kernel_rfl
theorem f12_in {gp : Heap} {args : List V} {res : V} (h : G ⟨Go.Proofs.Tryd.prog, gp, 0, [(RV.t 2), (RV.t 3)], fun r c => r = res ∧ c = [], false⟩ [.code f12_c14, .fin] ⟨args ++ List.replicate (17 - args.length) .un, []⟩) : Does Go.Proofs.Tryd.prog gp 12 args res :=
  does_intro f12_ok Go.Proofs.Tryd.func12 f12_body f12_tr f12_rs (by rw [f12_nt]; exact h)
theorem f12_tri {gp : Heap} {args : List V} {pre : List Ch} {R : V → List Ch → Prop} (h : G ⟨Go.Proofs.Tryd.prog, gp, pre.length, [(RV.t 2), (RV.t 3)], R, false⟩ [.code f12_c14, .fin] ⟨args ++ List.replicate (17 - args.length) .un, pre⟩) : Tri Go.Proofs.Tryd.prog gp 12 args pre R :=
  tri_intro Go.Proofs.Tryd.func12 f12_body f12_tr f12_rs (by rw [f12_nt]; exact h)

/-! sigillary/reach.IsTidy -/
def f14_r0 : List MO := [
(Qa (Qu 1) (MOp.ibox (Qm 0))),
(Qa (Qu 2) (Qc (Qn (Qo (Qp (Qr false))))))]
def f14_c0 : MC := .reg false f14_r0
def f14_r1 : List MO := [
(Qa (Qu 6) (Qe 2 true (Qm 1))),
(Qa (Qu 7) (Qg 11 [(Qm 6)])),
(Qa (Qu 5) (Qc (Qm 7))),
(Qa (Qu 8) (Qh (Qm 5) 0)),
(Qa (Qu 9) (Qh (Qm 5) 1)),
(Qa (Qu 3) (MOp.alloc [(Qq Qt 0), (D.sl [])])),
(Qa none (Qk 2 (Qm 3) (Qm 8))),
(Qa (Qu 4) (Qc (Qm 9)))]
def f14_c1 : MC := .reg false f14_r1
def f14_r2 : List MO := [
(Qa (Qu 10) (Qc (Qm 4))),
(Qa (Qu 11) (Qd Qs Go.BinOp.eql (Qm 10) (Qn (Qo (Qp (Qq Qt 0)))))),
(Qa (Qu 12) (Qc (Qm 11))),
(Qb 12 true (Qu 13)),
(Qa (Qu 13) (Qe 2 true (Qm 1))),
(Qb 12 true (Qu 14)),
(Qa (Qu 14) (Qe 2 true (Qm 3))),
(Qb 12 true (Qu 15)),
(Qa (Qu 15) (Qg 15 [(Qm 13), (Qm 14)])),
(Qa (Qu 16) (Ql (Qm 12) (Qm 15) (Qn (Qo (Qp (Qr false)))))),
(Qa (Qu 2) (Qc (Qm 16)))]
def f14_c2 : MC := .reg false f14_r2
def f14_c3 : MC := MC.ret
def f14_c4 : MC := .seq f14_c2 f14_c3
def f14_c5 : MC := .seq f14_c1 f14_c4
def f14_c6 : MC := .seq f14_c0 f14_c5
noncomputable def f14_code : Code := (Go.Proofs.Tryd.f14.body).getD .skip
theorem f14_body : Go.Proofs.Tryd.f14.body = Qu f14_code := by kernel_rfl
theorem f14_tr : trC Go.Proofs.Tryd.prog [1] f14_code = Qu f14_c6 := by kernel_rfl
theorem f14_rs : rsOf Go.Proofs.Tryd.prog Go.Proofs.Tryd.f14.results.toList = Qu [(RV.t 2)] := by kernel_rfl
theorem f14_nt : Go.Proofs.Tryd.f14.ntmps = 17 := by kernel_rfl
theorem f14_ok : callable Go.Proofs.Tryd.prog 14 = true := by kernel_rfl
theorem f14_in {gp : Heap} {args : List V} {res : V} (h : G ⟨Go.Proofs.Tryd.prog, gp, 0, [(RV.t 2)], fun r c => r = res ∧ c = [], false⟩ [.code f14_c6, .fin] ⟨args ++ List.replicate (17 - args.length) .un, []⟩) : Does Go.Proofs.Tryd.prog gp 14 args res :=
  does_intro f14_ok Go.Proofs.Tryd.func14 f14_body f14_tr f14_rs (by rw [f14_nt]; exact h)
theorem f14_tri {gp : Heap} {args : List V} {pre : List Ch} {R : V → List Ch → Prop} (h : G ⟨Go.Proofs.Tryd.prog, gp, pre.length, [(RV.t 2)], R, false⟩ [.code f14_c6, .fin] ⟨args ++ List.replicate (17 - args.length) .un, pre⟩) : Tri Go.Proofs.Tryd.prog gp 14 args pre R :=
  tri_intro Go.Proofs.Tryd.func14 f14_body f14_tr f14_rs (by rw [f14_nt]; exact h)

/-! sigillary/sigillarylaw08.path -/
def f16_r0 : List MO := [
(Qa (Qu 2) (Qc (Qn (Qo A.nil))))]
def f16_c0 : MC := .reg false f16_r0
def f16_r1 : List MO := [
(Qa (Qu 3) (Qc (Qm 0))),
(Qa (Qu 4) (Qc (Qm 0))),
(Qa (Qu 5) (Qj Qs (Qm 4))),
(Qa (Qu 6) (MOp.min (Qm 5) (Qn (Qo (Qp (Qq Qt 30)))))),
(Qa (Qu 7) (MOp.slc 1 (Qm 3) none (Qu (Qm 6)))),
(Qa (Qu 2) (Qc (Qm 7)))]
def f16_c1 : MC := .reg false f16_r1
def f16_c2 : MC := MC.ret
def f16_c3 : MC := .seq f16_c1 f16_c2
def f16_c4 : MC := .seq f16_c0 f16_c3
noncomputable def f16_code : Code := (Go.Proofs.Tryd.f16.body).getD .skip
theorem f16_body : Go.Proofs.Tryd.f16.body = Qu f16_code := by kernel_rfl
theorem f16_tr : trC Go.Proofs.Tryd.prog [] f16_code = Qu f16_c4 := by kernel_rfl
theorem f16_rs : rsOf Go.Proofs.Tryd.prog Go.Proofs.Tryd.f16.results.toList = Qu [(RV.t 2)] := by kernel_rfl
theorem f16_nt : Go.Proofs.Tryd.f16.ntmps = 8 := by kernel_rfl
theorem f16_ok : callable Go.Proofs.Tryd.prog 16 = true := by kernel_rfl
theorem f16_in {gp : Heap} {args : List V} {res : V} (h : G ⟨Go.Proofs.Tryd.prog, gp, 0, [(RV.t 2)], fun r c => r = res ∧ c = [], false⟩ [.code f16_c4, .fin] ⟨args ++ List.replicate (8 - args.length) .un, []⟩) : Does Go.Proofs.Tryd.prog gp 16 args res :=
  does_intro f16_ok Go.Proofs.Tryd.func16 f16_body f16_tr f16_rs (by rw [f16_nt]; exact h)
theorem f16_tri {gp : Heap} {args : List V} {pre : List Ch} {R : V → List Ch → Prop} (h : G ⟨Go.Proofs.Tryd.prog, gp, pre.length, [(RV.t 2)], R, false⟩ [.code f16_c4, .fin] ⟨args ++ List.replicate (8 - args.length) .un, pre⟩) : Tri Go.Proofs.Tryd.prog gp 16 args pre R :=
  tri_intro Go.Proofs.Tryd.func16 f16_body f16_tr f16_rs (by rw [f16_nt]; exact h)

/-! sigillary/reach.At -/
def f17_r0 : List MO := [
(Qa (Qu 2) (MOp.ibox (Qm 0))),
(Qa (Qu 4) (Qc (Qn (Qo (Qp (Qq Qt 0)))))),
(Qa (Qu 5) (Qc (Qn (Qo (Qp (Qr false))))))]
def f17_c0 : MC := .reg false f17_r0
def f17_r1 : List MO := [
(Qa (Qu 14) (Qe 2 true (Qm 2))),
(Qa (Qu 15) (Qg 13 [(Qm 14)])),
(Qa (Qu 13) (Qc (Qm 15))),
(Qa (Qu 16) (Qh (Qm 13) 0)),
(Qa (Qu 17) (Qh (Qm 13) 1)),
(Qa (Qu 6) (Qc (Qm 16))),
(Qa (Qu 7) (Qc (Qm 17)))]
def f17_c1 : MC := .reg false f17_r1
def f17_r2 : List MO := [
(Qa (Qu 18) (Qc (Qm 7))),
(Qa (Qu 19) (Qd Qs Go.BinOp.neq (Qm 18) (Qn (Qo (Qp (Qq Qt 0))))))]
def f17_c2 : MC := .reg false f17_r2
def f17_r3 : List MO := [
(Qa (Qu 4) (Qc (Qn (Qo (Qp (Qq Qt 0)))))),
(Qa (Qu 5) (Qc (Qn (Qo (Qp (Qr false))))))]
def f17_c3 : MC := .reg false f17_r3
def f17_c4 : MC := MC.ret
def f17_c5 : MC := .seq f17_c3 f17_c4
def f17_c6 : MC := MC.skip
def f17_c7 : MC := .cond (Qm 19) f17_c5 f17_c6
def f17_c8 : MC := .seq f17_c2 f17_c7
def f17_c9 : MC := .seq f17_c1 f17_c8
def f17_r10 : List MO := [
(Qa (Qu 20) (Qf 0 (Qm 2))),
(Qa (Qu 21) (Qe 1 false (Qm 20))),
(Qa (Qu 8) (Qc (Qm 21)))]
def f17_c10 : MC := .reg false f17_r10
def f17_r11 : List MO := [
(Qa (Qu 22) (Qc (Qm 1))),
(Qa (Qu 23) (Qj Qs (Qm 22))),
(Qa (Qu 24) (Qc (Qn (Qo (Qp (Qq Qt 0))))))]
def f17_c11 : MC := .reg false f17_r11
def f17_r12 : List MO := [
(Qa (Qu 25) (Qd Qs Go.BinOp.lss (Qm 24) (Qm 23)))]
def f17_c12 : MC := .reg false f17_r12
def f17_c13 : MC := MC.skip
def f17_c14 : MC := (MC.exit 0)
def f17_c15 : MC := .cond (Qm 25) f17_c13 f17_c14
def f17_r16 : List MO := [
(Qa (Qu 26) (Qi 1 (Qm 22) (Qm 24))),
(Qa (Qu 27) (Qe 1 false (Qm 26))),
(Qa (Qu 10) (Qc (Qm 27)))]
def f17_c16 : MC := .reg false f17_r16
def f17_r17 : List MO := [
(Qa (Qu 29) (Qe 2 true (Qm 2))),
(Qa (Qu 30) (Qc (Qm 8))),
(Qa (Qu 31) (Qg 21 [(Qm 29), (Qm 30)])),
(Qa (Qu 28) (Qc (Qm 31))),
(Qa (Qu 32) (Qh (Qm 28) 0)),
(Qa (Qu 33) (Qh (Qm 28) 1)),
(Qa (Qu 11) (Qc (Qm 32))),
(Qa (Qu 12) (Qc (Qm 33)))]
def f17_c17 : MC := .reg false f17_r17
def f17_r18 : List MO := [
(Qa (Qu 34) (Qc (Qm 10))),
(Qa (Qu 35) (Qd Qs Go.BinOp.lss (Qm 34) (Qn (Qo (Qp (Qq Qt 0)))))),
(Qa (Qu 36) (Qc (Qm 35))),
(Qb 36 false (Qu 37)),
(Qa (Qu 37) (Qc (Qm 10))),
(Qb 36 false (Qu 38)),
(Qa (Qu 38) (Qc (Qm 11))),
(Qb 36 false (Qu 39)),
(Qa (Qu 39) (Qj Qs (Qm 38))),
(Qb 36 false (Qu 40)),
(Qa (Qu 40) (Qd Qs Go.BinOp.geq (Qm 37) (Qm 39))),
(Qa (Qu 41) (Ql (Qm 36) (Qn (Qo (Qp (Qr true)))) (Qm 40)))]
def f17_c18 : MC := .reg false f17_r18
def f17_r19 : List MO := [
(Qa (Qu 4) (Qc (Qn (Qo (Qp (Qq Qt 0)))))),
(Qa (Qu 5) (Qc (Qn (Qo (Qp (Qr false))))))]
def f17_c19 : MC := .reg false f17_r19
def f17_c20 : MC := MC.ret
def f17_c21 : MC := .seq f17_c19 f17_c20
def f17_c22 : MC := MC.skip
def f17_c23 : MC := .cond (Qm 41) f17_c21 f17_c22
def f17_c24 : MC := .seq f17_c18 f17_c23
def f17_r25 : List MO := [
(Qa (Qu 42) (Qc (Qm 11))),
(Qa (Qu 43) (Qc (Qm 10))),
(Qa (Qu 44) (Qi 1 (Qm 42) (Qm 43))),
(Qa (Qu 45) (Qe 1 false (Qm 44))),
(Qa (Qu 8) (Qc (Qm 45)))]
def f17_c25 : MC := .reg false f17_r25
def f17_c26 : MC := .seq f17_c24 f17_c25
def f17_c27 : MC := .seq f17_c17 f17_c26
def f17_c28 : MC := .seq f17_c16 f17_c27
def f17_c29 : MC := .blk 1 f17_c28
def f17_r30 : List MO := [
(Qa (Qu 46) (Qd Qs Go.BinOp.add (Qm 24) (Qn (Qo (Qp (Qq Qt 1)))))),
(Qa (Qu 24) (Qc (Qm 46)))]
def f17_c30 : MC := .reg false f17_r30
def f17_c31 : MC := .seq f17_c29 f17_c30
def f17_c32 : MC := .seq f17_c15 f17_c31
def f17_c33 : MC := .seq f17_c12 f17_c32
def f17_c34 : MC := .loop f17_c33
def f17_c35 : MC := .blk 0 f17_c34
def f17_c36 : MC := .seq f17_c11 f17_c35
def f17_r37 : List MO := [
(Qa (Qu 47) (Qc (Qm 8))),
(Qa (Qu 4) (Qc (Qm 47))),
(Qa (Qu 5) (Qc (Qn (Qo (Qp (Qr true))))))]
def f17_c37 : MC := .reg false f17_r37
def f17_c38 : MC := MC.ret
def f17_c39 : MC := .seq f17_c37 f17_c38
def f17_c40 : MC := .seq f17_c36 f17_c39
def f17_c41 : MC := .seq f17_c10 f17_c40
def f17_c42 : MC := .seq f17_c9 f17_c41
def f17_c43 : MC := .seq f17_c0 f17_c42
noncomputable def f17_code : Code := (Go.Proofs.Tryd.f17.body).getD .skip
theorem f17_body : Go.Proofs.Tryd.f17.body = Qu f17_code := by kernel_rfl
theorem f17_tr : trC Go.Proofs.Tryd.prog [2] f17_code = Qu f17_c43 := by kernel_rfl
theorem f17_rs : rsOf Go.Proofs.Tryd.prog Go.Proofs.Tryd.f17.results.toList = Qu [(RV.t 4), (RV.t 5)] := by kernel_rfl
theorem f17_nt : Go.Proofs.Tryd.f17.ntmps = 48 := by kernel_rfl
theorem f17_ok : callable Go.Proofs.Tryd.prog 17 = true := by kernel_rfl
theorem f17_in {gp : Heap} {args : List V} {res : V} (h : G ⟨Go.Proofs.Tryd.prog, gp, 0, [(RV.t 4), (RV.t 5)], fun r c => r = res ∧ c = [], false⟩ [.code f17_c43, .fin] ⟨args ++ List.replicate (48 - args.length) .un, []⟩) : Does Go.Proofs.Tryd.prog gp 17 args res :=
  does_intro f17_ok Go.Proofs.Tryd.func17 f17_body f17_tr f17_rs (by rw [f17_nt]; exact h)
theorem f17_tri {gp : Heap} {args : List V} {pre : List Ch} {R : V → List Ch → Prop} (h : G ⟨Go.Proofs.Tryd.prog, gp, pre.length, [(RV.t 4), (RV.t 5)], R, false⟩ [.code f17_c43, .fin] ⟨args ++ List.replicate (48 - args.length) .un, pre⟩) : Tri Go.Proofs.Tryd.prog gp 17 args pre R :=
  tri_intro Go.Proofs.Tryd.func17 f17_body f17_tr f17_rs (by rw [f17_nt]; exact h)

/-! sigillary/sigillaryref08.In -/
def f20_r0 : List MO := [
(Qa (Qu 4) (Qc (Qn (Qo (Qp (Qq Qt 0))))))]
def f20_c0 : MC := .reg false f20_r0
def f20_r1 : List MO := [
(Qa (Qu 5) (Qc (Qn (Qo (Qp (Qq Qt 0))))))]
def f20_c1 : MC := .reg false f20_r1
def f20_r2 : List MO := [
(Qa (Qu 6) (Qc (Qm 5))),
(Qa (Qu 7) (Qc (Qm 0))),
(Qa (Qu 8) (Qj Qs (Qm 7))),
(Qa (Qu 9) (Qd Qs Go.BinOp.lss (Qm 6) (Qm 8)))]
def f20_c2 : MC := .reg false f20_r2
def f20_c3 : MC := MC.skip
def f20_c4 : MC := (MC.exit 0)
def f20_c5 : MC := .cond (Qm 9) f20_c3 f20_c4
def f20_c6 : MC := .seq f20_c2 f20_c5
def f20_r7 : List MO := [
(Qa (Qu 12) (Qc (Qm 0))),
(Qa (Qu 13) (Qc (Qm 5))),
(Qa (Qu 14) (Qi 1 (Qm 12) (Qm 13))),
(Qa (Qu 15) (Qe 1 false (Qm 14))),
(Qa (Qu 16) (Qc (Qm 1))),
(Qa (Qu 17) (Qd Qs Go.BinOp.eql (Qm 15) (Qm 16)))]
def f20_c7 : MC := .reg false f20_r7
def f20_r8 : List MO := [
(Qa (Qu 18) (Qc (Qm 5))),
(Qa (Qu 4) (Qc (Qm 18)))]
def f20_c8 : MC := .reg false f20_r8
def f20_c9 : MC := MC.ret
def f20_c10 : MC := .seq f20_c8 f20_c9
def f20_c11 : MC := MC.skip
def f20_c12 : MC := .cond (Qm 17) f20_c10 f20_c11
def f20_c13 : MC := .seq f20_c7 f20_c12
def f20_c14 : MC := .blk 1 f20_c13
def f20_r15 : List MO := [
(Qa (Qu 10) (Qc (Qm 5))),
(Qa (Qu 11) (Qd Qs Go.BinOp.add (Qm 10) (Qn (Qo (Qp (Qq Qt 1)))))),
(Qa (Qu 5) (Qc (Qm 11)))]
def f20_c15 : MC := .reg false f20_r15
def f20_c16 : MC := .seq f20_c14 f20_c15
def f20_c17 : MC := .seq f20_c6 f20_c16
def f20_c18 : MC := .loop f20_c17
def f20_c19 : MC := .blk 0 f20_c18
def f20_c20 : MC := .seq f20_c1 f20_c19
def f20_r21 : List MO := [
(Qa (Qu 4) (Qc (Qn (Qo (Qp (Qq Qt (-1)))))))]
def f20_c21 : MC := .reg false f20_r21
def f20_c22 : MC := MC.ret
def f20_c23 : MC := .seq f20_c21 f20_c22
def f20_c24 : MC := .seq f20_c20 f20_c23
def f20_c25 : MC := .seq f20_c0 f20_c24
noncomputable def f20_code : Code := (Go.Proofs.Tryd.f20.body).getD .skip
theorem f20_body : Go.Proofs.Tryd.f20.body = Qu f20_code := by kernel_rfl
theorem f20_tr : trC Go.Proofs.Tryd.prog [] f20_code = Qu f20_c25 := by kernel_rfl
theorem f20_rs : rsOf Go.Proofs.Tryd.prog Go.Proofs.Tryd.f20.results.toList = Qu [(RV.t 4)] := by kernel_rfl
theorem f20_nt : Go.Proofs.Tryd.f20.ntmps = 19 := by kernel_rfl
theorem f20_ok : callable Go.Proofs.Tryd.prog 20 = true := by kernel_rfl
theorem f20_in {gp : Heap} {args : List V} {res : V} (h : G ⟨Go.Proofs.Tryd.prog, gp, 0, [(RV.t 4)], fun r c => r = res ∧ c = [], false⟩ [.code f20_c25, .fin] ⟨args ++ List.replicate (19 - args.length) .un, []⟩) : Does Go.Proofs.Tryd.prog gp 20 args res :=
  does_intro f20_ok Go.Proofs.Tryd.func20 f20_body f20_tr f20_rs (by rw [f20_nt]; exact h)
theorem f20_tri {gp : Heap} {args : List V} {pre : List Ch} {R : V → List Ch → Prop} (h : G ⟨Go.Proofs.Tryd.prog, gp, pre.length, [(RV.t 4)], R, false⟩ [.code f20_c25, .fin] ⟨args ++ List.replicate (19 - args.length) .un, pre⟩) : Tri Go.Proofs.Tryd.prog gp 20 args pre R :=
  tri_intro Go.Proofs.Tryd.func20 f20_body f20_tr f20_rs (by rw [f20_nt]; exact h)

/-! sigillary/reach.of -/
def f24_r0 : List MO := [
(Qa (Qu 1) (MOp.ibox (Qm 0))),
(Qa (Qu 2) (Qc (Qn (Qo (Qp D.nilP)))))]
def f24_c0 : MC := .reg false f24_r0
def f24_r1 : List MO := [
(Qa (Qu 3) (Qe 2 true (Qm 1))),
(Qa (Qu 4) MOp.mkM),
(Qa (Qu 5) (MOp.build [(Qq Qt 0), (D.sl []), (D.raw (Go.Value.map none))] [(0, (2, (Qm 3))), (2, (1, (Qm 4)))])),
(Qa (Qu 6) (MOp.box (Qm 5))),
(Qa (Qu 2) (Qc (Qm 6)))]
def f24_c1 : MC := .reg false f24_r1
def f24_c2 : MC := MC.ret
def f24_c3 : MC := .seq f24_c1 f24_c2
def f24_c4 : MC := .seq f24_c0 f24_c3
noncomputable def f24_code : Code := (Go.Proofs.Tryd.f24.body).getD .skip
theorem f24_body : Go.Proofs.Tryd.f24.body = Qu f24_code := by kernel_rfl
theorem f24_tr : trC Go.Proofs.Tryd.prog [1] f24_code = Qu f24_c4 := by kernel_rfl
theorem f24_rs : rsOf Go.Proofs.Tryd.prog Go.Proofs.Tryd.f24.results.toList = Qu [(RV.t 2)] := by kernel_rfl
theorem f24_nt : Go.Proofs.Tryd.f24.ntmps = 7 := by kernel_rfl
theorem f24_ok : callable Go.Proofs.Tryd.prog 24 = true := by kernel_rfl
theorem f24_in {gp : Heap} {args : List V} {res : V} (h : G ⟨Go.Proofs.Tryd.prog, gp, 0, [(RV.t 2)], fun r c => r = res ∧ c = [], false⟩ [.code f24_c4, .fin] ⟨args ++ List.replicate (7 - args.length) .un, []⟩) : Does Go.Proofs.Tryd.prog gp 24 args res :=
  does_intro f24_ok Go.Proofs.Tryd.func24 f24_body f24_tr f24_rs (by rw [f24_nt]; exact h)
theorem f24_tri {gp : Heap} {args : List V} {pre : List Ch} {R : V → List Ch → Prop} (h : G ⟨Go.Proofs.Tryd.prog, gp, pre.length, [(RV.t 2)], R, false⟩ [.code f24_c4, .fin] ⟨args ++ List.replicate (7 - args.length) .un, pre⟩) : Tri Go.Proofs.Tryd.prog gp 24 args pre R :=
  tri_intro Go.Proofs.Tryd.func24 f24_body f24_tr f24_rs (by rw [f24_nt]; exact h)

/-! (*sigillary/reach.walker).walk -/
def f25_r0 : List MO := [
(Qa (Qu 2) (Qc (Qn (Qo A.nil))))]
def f25_c0 : MC := .reg false f25_r0
def f25_r1 : List MO := [
(Qa (Qu 3) (MOp.alloc [(D.sl [])]))]
def f25_c1 : MC := .reg false f25_r1
def f25_r2 : List MO := [
(Qa (Qu 5) (Qc (Qm 0))),
(Qa (Qu 6) (Qg 37 [(Qm 5)]))]
def f25_c2 : MC := .reg false f25_r2
def f25_r3 : List MO := [
(Qa (Qu 4) (Qc (Qm 7)))]
def f25_c3 : MC := .reg false f25_r3
def f25_r4 : List MO := [
(Qa (Qu 8) (Qe 1 false (Qm 3))),
(Qa (Qu 9) (Qc (Qm 4))),
(Qa (Qu 10) (MOp.bslice 1 [(Qq Qt 0)] 1 [(0, (Qm 9))])),
(Qa (Qu 11) (MOp.app 1 8 (Qm 8) (Qm 10))),
(Qa none (Qk 1 (Qm 3) (Qm 11)))]
def f25_c4 : MC := .reg false f25_r4
def f25_c5 : MC := .blk 1 f25_c4
def f25_c6 : MC := .rf (Qm 6) [7] f25_c3 f25_c5
def f25_c7 : MC := .blk 0 f25_c6
def f25_c8 : MC := .seq f25_c2 f25_c7
def f25_r9 : List MO := [
(Qa (Qu 12) (Qe 1 false (Qm 3))),
(Qa (Qu 2) (Qc (Qm 12)))]
def f25_c9 : MC := .reg false f25_r9
def f25_c10 : MC := MC.ret
def f25_c11 : MC := .seq f25_c9 f25_c10
def f25_c12 : MC := .seq f25_c8 f25_c11
def f25_c13 : MC := .seq f25_c1 f25_c12
def f25_c14 : MC := .seq f25_c0 f25_c13
noncomputable def f25_code : Code := (Go.Proofs.Tryd.f25.body).getD .skip
theorem f25_body : Go.Proofs.Tryd.f25.body = Qu f25_code := by kernel_rfl
theorem f25_tr : trC Go.Proofs.Tryd.prog [] f25_code = Qu f25_c14 := by kernel_rfl
theorem f25_rs : rsOf Go.Proofs.Tryd.prog Go.Proofs.Tryd.f25.results.toList = Qu [(RV.t 2)] := by kernel_rfl
theorem f25_nt : Go.Proofs.Tryd.f25.ntmps = 13 := by kernel_rfl
theorem f25_ok : callable Go.Proofs.Tryd.prog 25 = true := by kernel_rfl
theorem f25_in {gp : Heap} {args : List V} {res : V} (h : G ⟨Go.Proofs.Tryd.prog, gp, 0, [(RV.t 2)], fun r c => r = res ∧ c = [], false⟩ [.code f25_c14, .fin] ⟨args ++ List.replicate (13 - args.length) .un, []⟩) : Does Go.Proofs.Tryd.prog gp 25 args res :=
  does_intro f25_ok Go.Proofs.Tryd.func25 f25_body f25_tr f25_rs (by rw [f25_nt]; exact h)
theorem f25_tri {gp : Heap} {args : List V} {pre : List Ch} {R : V → List Ch → Prop} (h : G ⟨Go.Proofs.Tryd.prog, gp, pre.length, [(RV.t 2)], R, false⟩ [.code f25_c14, .fin] ⟨args ++ List.replicate (13 - args.length) .un, pre⟩) : Tri Go.Proofs.Tryd.prog gp 25 args pre R :=
  tri_intro Go.Proofs.Tryd.func25 f25_body f25_tr f25_rs (by rw [f25_nt]; exact h)

/-! (*sigillary/reach.walker).places -/
def f26_r0 : List MO := [
(Qa (Qu 4) (Qc (Qn (Qo A.nil))))]
def f26_c0 : MC := .reg false f26_r0
def f26_r1 : List MO := [
(Qa (Qu 8) (Qc (Qm 1))),
(Qa (Qu 9) (Qj Qs (Qm 8))),
(Qa (Qu 10) (MOp.mkS 1 8 [(Qq Qt 0)] (Qm 9))),
(Qa (Qu 5) (Qc (Qm 10)))]
def f26_c1 : MC := .reg false f26_r1
def f26_r2 : List MO := [
(Qa (Qu 11) (Qc (Qm 5))),
(Qa (Qu 12) (Qc (Qm 1))),
(Qa (Qu 13) (MOp.cpy 1 (Qm 11) (Qm 12)))]
def f26_c2 : MC := .reg false f26_r2
def f26_r3 : List MO := [
(Qa (Qu 14) (Qc (Qm 5))),
(Qa (Qu 15) (Qj Qs (Qm 14))),
(Qa (Qu 16) (Qc (Qn (Qo (Qp (Qq Qt 0))))))]
def f26_c3 : MC := .reg false f26_r3
def f26_r4 : List MO := [
(Qa (Qu 17) (Qd Qs Go.BinOp.lss (Qm 16) (Qm 15)))]
def f26_c4 : MC := .reg false f26_r4
def f26_c5 : MC := MC.skip
def f26_c6 : MC := (MC.exit 0)
def f26_c7 : MC := .cond (Qm 17) f26_c5 f26_c6
def f26_r8 : List MO := [
(Qa (Qu 18) (Qc (Qm 16))),
(Qa (Qu 19) (Qi 1 (Qm 14) (Qm 16))),
(Qa (Qu 20) (Qe 1 false (Qm 19))),
(Qa (Qu 6) (Qc (Qm 18))),
(Qa (Qu 7) (Qc (Qm 20)))]
def f26_c8 : MC := .reg false f26_r8
def f26_r9 : List MO := [
(Qa (Qu 21) (Qc (Qm 5))),
(Qa (Qu 22) (Qc (Qm 6))),
(Qa (Qu 23) (Qc (Qm 0))),
(Qa (Qu 24) (MOp.nck (Qm 23))),
(Qa (Qu 25) (Qf 2 (Qm 24))),
(Qa (Qu 26) (Qe 1 false (Qm 25))),
(Qa (Qu 27) (Qc (Qm 7))),
(Qa (Qu 28) (MOp.lkp false (Qo (Qp (Qq Qt 0))) false [Qs] (Qm 26) (Qm 27))),
(Qa (Qu 29) (Qi 1 (Qm 21) (Qm 22))),
(Qa none (Qk 1 (Qm 29) (Qm 28)))]
def f26_c9 : MC := .reg false f26_r9
def f26_c10 : MC := .seq f26_c8 f26_c9
def f26_c11 : MC := .blk 1 f26_c10
def f26_r12 : List MO := [
(Qa (Qu 30) (Qd Qs Go.BinOp.add (Qm 16) (Qn (Qo (Qp (Qq Qt 1)))))),
(Qa (Qu 16) (Qc (Qm 30)))]
def f26_c12 : MC := .reg false f26_r12
def f26_c13 : MC := .seq f26_c11 f26_c12
def f26_c14 : MC := .seq f26_c7 f26_c13
def f26_c15 : MC := .seq f26_c4 f26_c14
def f26_c16 : MC := .loop f26_c15
def f26_c17 : MC := .blk 0 f26_c16
def f26_c18 : MC := .seq f26_c3 f26_c17
def f26_r19 : List MO := [
(Qa (Qu 31) (Qc (Qm 5))),
(Qa (Qu 4) (Qc (Qm 31)))]
def f26_c19 : MC := .reg false f26_r19
def f26_c20 : MC := MC.ret
def f26_c21 : MC := .seq f26_c19 f26_c20
def f26_c22 : MC := .seq f26_c18 f26_c21
def f26_c23 : MC := .seq f26_c2 f26_c22
def f26_c24 : MC := .seq f26_c1 f26_c23
def f26_c25 : MC := .seq f26_c0 f26_c24
noncomputable def f26_code : Code := (Go.Proofs.Tryd.f26.body).getD .skip
theorem f26_body : Go.Proofs.Tryd.f26.body = Qu f26_code := by kernel_rfl
theorem f26_tr : trC Go.Proofs.Tryd.prog [] f26_code = Qu f26_c25 := by kernel_rfl
theorem f26_rs : rsOf Go.Proofs.Tryd.prog Go.Proofs.Tryd.f26.results.toList = Qu [(RV.t 4)] := by kernel_rfl
theorem f26_nt : Go.Proofs.Tryd.f26.ntmps = 32 := by kernel_rfl
theorem f26_ok : callable Go.Proofs.Tryd.prog 26 = true := by kernel_rfl
theorem f26_in {gp : Heap} {args : List V} {res : V} (h : G ⟨Go.Proofs.Tryd.prog, gp, 0, [(RV.t 4)], fun r c => r = res ∧ c = [], false⟩ [.code f26_c25, .fin] ⟨args ++ List.replicate (32 - args.length) .un, []⟩) : Does Go.Proofs.Tryd.prog gp 26 args res :=
  does_intro f26_ok Go.Proofs.Tryd.func26 f26_body f26_tr f26_rs (by rw [f26_nt]; exact h)
theorem f26_tri {gp : Heap} {args : List V} {pre : List Ch} {R : V → List Ch → Prop} (h : G ⟨Go.Proofs.Tryd.prog, gp, pre.length, [(RV.t 4)], R, false⟩ [.code f26_c25, .fin] ⟨args ++ List.replicate (32 - args.length) .un, pre⟩) : Tri Go.Proofs.Tryd.prog gp 26 args pre R :=
  tri_intro Go.Proofs.Tryd.func26 f26_body f26_tr f26_rs (by rw [f26_nt]; exact h)

/-! (*sigillary/reach.walker).nodes -/
def f37_r0 : List MO := [
(Qa (Qu 1) (MOp.box (Qm 0))),
(Qa (Qu 2) (Qc (Qn (Qo (Qp D.nilF)))))]
def f37_c0 : MC := .reg false f37_r0
def f37_r1 : List MO := [
(Qa (Qu 3) (MOp.mkF (Go.Fn.func 46) [(Qm 1)])),
(Qa (Qu 2) (Qc (Qm 3)))]
def f37_c1 : MC := .reg false f37_r1
def f37_c2 : MC := MC.ret
def f37_c3 : MC := .seq f37_c1 f37_c2
def f37_c4 : MC := .seq f37_c0 f37_c3
noncomputable def f37_code : Code := (Go.Proofs.Tryd.f37.body).getD .skip
theorem f37_body : Go.Proofs.Tryd.f37.body = Qu f37_code := by kernel_rfl
theorem f37_tr : trC Go.Proofs.Tryd.prog [] f37_code = Qu f37_c4 := by kernel_rfl
theorem f37_rs : rsOf Go.Proofs.Tryd.prog Go.Proofs.Tryd.f37.results.toList = Qu [(RV.t 2)] := by kernel_rfl
theorem f37_nt : Go.Proofs.Tryd.f37.ntmps = 4 := by kernel_rfl
theorem f37_ok : callable Go.Proofs.Tryd.prog 37 = true := by kernel_rfl
theorem f37_in {gp : Heap} {args : List V} {res : V} (h : G ⟨Go.Proofs.Tryd.prog, gp, 0, [(RV.t 2)], fun r c => r = res ∧ c = [], false⟩ [.code f37_c4, .fin] ⟨args ++ List.replicate (4 - args.length) .un, []⟩) : Does Go.Proofs.Tryd.prog gp 37 args res :=
  does_intro f37_ok Go.Proofs.Tryd.func37 f37_body f37_tr f37_rs (by rw [f37_nt]; exact h)
theorem f37_tri {gp : Heap} {args : List V} {pre : List Ch} {R : V → List Ch → Prop} (h : G ⟨Go.Proofs.Tryd.prog, gp, pre.length, [(RV.t 2)], R, false⟩ [.code f37_c4, .fin] ⟨args ++ List.replicate (4 - args.length) .un, pre⟩) : Tri Go.Proofs.Tryd.prog gp 37 args pre R :=
  tri_intro Go.Proofs.Tryd.func37 f37_body f37_tr f37_rs (by rw [f37_nt]; exact h)

-- f38: trC none
/-! (*sigillary/reach.walker).nodes$1 -/
def f46_r0 : List MO := [
(Qa (Qu 10) (Qe 1 false (Qm 1))),
(Qa (Qu 11) (MOp.nck (Qm 10))),
(Qa (Qu 12) (Qf 0 (Qm 11))),
(Qa (Qu 13) (Qf 0 (Qm 12))),
(Qa (Qu 14) (Qe 1 false (Qm 13))),
(Qa (Qu 15) (MOp.bslO 1 [(Qq Qt 0)] 1 [(0, (Qm 14))])),
(Qa (Qu 3) (MOp.alloc [(D.sl [])])),
(Qa none (Qk 1 (Qm 3) (Qm 15)))]
def f46_c0 : MC := .reg false f46_r0
def f46_r1 : List MO := [
(Qa (Qu 16) (MOp.mkF (Go.Fn.func 47) [(Qm 3)])),
(Qa (Qu 4) (Qc (Qm 16)))]
def f46_c1 : MC := .reg false f46_r1
def f46_c2 : MC := MC.skip
def f46_r3 : List MO := [
(Qa (Qu 17) (Qe 1 false (Qm 3))),
(Qa (Qu 18) (Qj Qs (Qm 17))),
(Qa (Qu 19) (Qd Qs Go.BinOp.gtr (Qm 18) (Qn (Qo (Qp (Qq Qt 0))))))]
def f46_c3 : MC := .reg false f46_r3
def f46_c4 : MC := MC.skip
def f46_c5 : MC := (MC.exit 0)
def f46_c6 : MC := .cond (Qm 19) f46_c4 f46_c5
def f46_c7 : MC := .seq f46_c3 f46_c6
def f46_r8 : List MO := [
(Qa (Qu 20) (Qe 1 false (Qm 3))),
(Qa (Qu 21) (Qe 1 false (Qm 3))),
(Qa (Qu 22) (Qj Qs (Qm 21))),
(Qa (Qu 23) (Qd Qs Go.BinOp.sub (Qm 22) (Qn (Qo (Qp (Qq Qt 1)))))),
(Qa (Qu 24) (Qi 1 (Qm 20) (Qm 23))),
(Qa (Qu 25) (Qe 1 false (Qm 24))),
(Qa (Qu 5) (Qc (Qm 25)))]
def f46_c8 : MC := .reg false f46_r8
def f46_r9 : List MO := [
(Qa (Qu 26) (Qe 1 false (Qm 3))),
(Qa (Qu 27) (Qe 1 false (Qm 3))),
(Qa (Qu 28) (Qj Qs (Qm 27))),
(Qa (Qu 29) (Qd Qs Go.BinOp.sub (Qm 28) (Qn (Qo (Qp (Qq Qt 1)))))),
(Qa (Qu 30) (MOp.slc 1 (Qm 26) none (Qu (Qm 29)))),
(Qa none (Qk 1 (Qm 3) (Qm 30)))]
def f46_c9 : MC := .reg false f46_r9
def f46_r10 : List MO := [
(Qa (Qu 32) (Qe 1 false (Qm 1))),
(Qa (Qu 33) (MOp.nck (Qm 32))),
(Qa (Qu 34) (Qf 2 (Qm 33))),
(Qa (Qu 35) (Qe 1 false (Qm 34))),
(Qa (Qu 36) (Qc (Qm 5))),
(Qa (Qu 37) (MOp.lkp true (Qo (Qp (Qq Qt 0))) false [Qs] (Qm 35) (Qm 36))),
(Qa (Qu 31) (Qc (Qm 37))),
(Qa (Qu 38) (Qh (Qm 31) 0)),
(Qa (Qu 39) (Qh (Qm 31) 1)),
(Qa (Qu 6) (Qc (Qm 38))),
(Qa (Qu 7) (Qc (Qm 39)))]
def f46_c10 : MC := .reg false f46_r10
def f46_r11 : List MO := [
(Qa (Qu 40) (Qc (Qm 7)))]
def f46_c11 : MC := .reg false f46_r11
def f46_c12 : MC := (MC.exit 1)
def f46_c13 : MC := MC.skip
def f46_c14 : MC := .cond (Qm 40) f46_c12 f46_c13
def f46_c15 : MC := .seq f46_c11 f46_c14
def f46_c16 : MC := .seq f46_c10 f46_c15
def f46_r17 : List MO := [
(Qa (Qu 41) (Qe 1 false (Qm 1))),
(Qa (Qu 42) (MOp.nck (Qm 41))),
(Qa (Qu 43) (Qf 2 (Qm 42))),
(Qa (Qu 44) (Qe 1 false (Qm 43))),
(Qa (Qu 45) (Qc (Qm 5))),
(Qa (Qu 46) (Qe 1 false (Qm 1))),
(Qa (Qu 47) (MOp.nck (Qm 46))),
(Qa (Qu 48) (Qf 2 (Qm 47))),
(Qa (Qu 49) (Qe 1 false (Qm 48))),
(Qa (Qu 50) (Qj Leaf.b (Qm 49))),
(Qa none (MOp.mupd false [Qs] (Qm 44) (Qm 45) (Qm 50)))]
def f46_c17 : MC := .reg true f46_r17
def f46_r18 : List MO := [
(Qa (Qu 51) (Qc (Qm 0))),
(Qa (Qu 52) (Qc (Qm 5))),
(Qa (Qu 53) (MOp.callv (Qm 51) [(Qm 52)])),
(Qa (Qu 54) (MOp.not (Qm 53)))]
def f46_c18 : MC := .reg false f46_r18
def f46_c19 : MC := (MC.exit 0)
def f46_c20 : MC := MC.skip
def f46_c21 : MC := .cond (Qm 54) f46_c19 f46_c20
def f46_c22 : MC := .seq f46_c18 f46_c21
def f46_r23 : List MO := [
(Qa (Qu 56) (Qe 1 false (Qm 1))),
(Qa (Qu 57) (MOp.nck (Qm 56))),
(Qa (Qu 58) (Qf 0 (Qm 57))),
(Qa (Qu 59) (Qe 2 true (Qm 58))),
(Qa (Qu 60) (Qc (Qm 5))),
(Qa (Qu 61) (Qg 21 [(Qm 59), (Qm 60)])),
(Qa (Qu 55) (Qc (Qm 61))),
(Qa (Qu 62) (Qh (Qm 55) 0)),
(Qa (Qu 63) (Qh (Qm 55) 1)),
(Qa (Qu 8) (Qc (Qm 62))),
(Qa (Qu 9) (Qc (Qm 63)))]
def f46_c23 : MC := .reg false f46_r23
def f46_r24 : List MO := [
(Qa (Qu 64) (Qc (Qm 4))),
(Qa (Qu 65) (Qc (Qm 8))),
(Qa (Qu 66) (MOp.callv (Qm 64) [(Qm 65)]))]
def f46_c24 : MC := .reg false f46_r24
def f46_c25 : MC := .seq f46_c23 f46_c24
def f46_c26 : MC := .seq f46_c22 f46_c25
def f46_c27 : MC := .seq f46_c17 f46_c26
def f46_c28 : MC := .seq f46_c16 f46_c27
def f46_c29 : MC := .seq f46_c9 f46_c28
def f46_c30 : MC := .seq f46_c8 f46_c29
def f46_c31 : MC := .blk 1 f46_c30
def f46_c32 : MC := .seq f46_c7 f46_c31
def f46_c33 : MC := .loop f46_c32
def f46_c34 : MC := .blk 0 f46_c33
def f46_c35 : MC := .seq f46_c2 f46_c34
def f46_c36 : MC := .seq f46_c1 f46_c35
def f46_c37 : MC := .seq f46_c0 f46_c36
def f46_c38 : MC := .scope f46_c37
noncomputable def f46_code : Code := (Go.Proofs.Tryd.f46.body).getD .skip
theorem f46_body : Go.Proofs.Tryd.f46.body = Qu f46_code := by kernel_rfl
theorem f46_tr : trC Go.Proofs.Tryd.prog [15] f46_code = Qu f46_c38 := by kernel_rfl
theorem f46_rs : rsOf Go.Proofs.Tryd.prog Go.Proofs.Tryd.f46.results.toList = Qu [] := by kernel_rfl
theorem f46_nt : Go.Proofs.Tryd.f46.ntmps = 67 := by kernel_rfl
theorem f46_ok : callable Go.Proofs.Tryd.prog 46 = true := by kernel_rfl
theorem f46_in {gp : Heap} {args : List V} {res : V} (h : G ⟨Go.Proofs.Tryd.prog, gp, 0, [], fun r c => r = res ∧ c = [], false⟩ [.code f46_c38, .fin] ⟨args ++ List.replicate (67 - args.length) .un, []⟩) : Does Go.Proofs.Tryd.prog gp 46 args res :=
  does_intro f46_ok Go.Proofs.Tryd.func46 f46_body f46_tr f46_rs (by rw [f46_nt]; exact h)
theorem f46_tri {gp : Heap} {args : List V} {pre : List Ch} {R : V → List Ch → Prop} (h : G ⟨Go.Proofs.Tryd.prog, gp, pre.length, [], R, false⟩ [.code f46_c38, .fin] ⟨args ++ List.replicate (67 - args.length) .un, pre⟩) : Tri Go.Proofs.Tryd.prog gp 46 args pre R :=
  tri_intro Go.Proofs.Tryd.func46 f46_body f46_tr f46_rs (by rw [f46_nt]; exact h)

/-! (*sigillary/reach.walker).nodes$1$1 -/
def f47_r0 : List MO := [
(Qa (Qu 4) (Qc (Qm 0))),
(Qa (Qu 5) (Qj Qs (Qm 4))),
(Qa (Qu 6) (Qd Qs Go.BinOp.sub (Qm 5) (Qn (Qo (Qp (Qq Qt 1)))))),
(Qa (Qu 3) (Qc (Qm 6)))]
def f47_c0 : MC := .reg false f47_r0
def f47_r1 : List MO := [
(Qa (Qu 7) (Qc (Qm 3))),
(Qa (Qu 8) (Qd Qs Go.BinOp.geq (Qm 7) (Qn (Qo (Qp (Qq Qt 0))))))]
def f47_c1 : MC := .reg false f47_r1
def f47_c2 : MC := MC.skip
def f47_c3 : MC := (MC.exit 0)
def f47_c4 : MC := .cond (Qm 8) f47_c2 f47_c3
def f47_c5 : MC := .seq f47_c1 f47_c4
def f47_r6 : List MO := [
(Qa (Qu 11) (Qe 1 false (Qm 1))),
(Qa (Qu 12) (Qc (Qm 0))),
(Qa (Qu 13) (Qc (Qm 3))),
(Qa (Qu 14) (Qi 1 (Qm 12) (Qm 13))),
(Qa (Qu 15) (Qe 1 false (Qm 14))),
(Qa (Qu 16) (MOp.bslice 1 [(Qq Qt 0)] 1 [(0, (Qm 15))])),
(Qa (Qu 17) (MOp.app 1 8 (Qm 11) (Qm 16))),
(Qa none (Qk 1 (Qm 1) (Qm 17)))]
def f47_c6 : MC := .reg true f47_r6
def f47_c7 : MC := .blk 1 f47_c6
def f47_r8 : List MO := [
(Qa (Qu 9) (Qc (Qm 3))),
(Qa (Qu 10) (Qd Qs Go.BinOp.sub (Qm 9) (Qn (Qo (Qp (Qq Qt 1)))))),
(Qa (Qu 3) (Qc (Qm 10)))]
def f47_c8 : MC := .reg false f47_r8
def f47_c9 : MC := .seq f47_c7 f47_c8
def f47_c10 : MC := .seq f47_c5 f47_c9
def f47_c11 : MC := .loop f47_c10
def f47_c12 : MC := .blk 0 f47_c11
def f47_c13 : MC := .seq f47_c0 f47_c12
noncomputable def f47_code : Code := (Go.Proofs.Tryd.f47.body).getD .skip
theorem f47_body : Go.Proofs.Tryd.f47.body = Qu f47_code := by kernel_rfl
theorem f47_tr : trC Go.Proofs.Tryd.prog [] f47_code = Qu f47_c13 := by kernel_rfl
theorem f47_rs : rsOf Go.Proofs.Tryd.prog Go.Proofs.Tryd.f47.results.toList = Qu [] := by kernel_rfl
theorem f47_nt : Go.Proofs.Tryd.f47.ntmps = 18 := by kernel_rfl
theorem f47_ok : callable Go.Proofs.Tryd.prog 47 = true := by kernel_rfl
theorem f47_in {gp : Heap} {args : List V} {res : V} (h : G ⟨Go.Proofs.Tryd.prog, gp, 0, [], fun r c => r = res ∧ c = [], false⟩ [.code f47_c13, .fin] ⟨args ++ List.replicate (18 - args.length) .un, []⟩) : Does Go.Proofs.Tryd.prog gp 47 args res :=
  does_intro f47_ok Go.Proofs.Tryd.func47 f47_body f47_tr f47_rs (by rw [f47_nt]; exact h)
theorem f47_tri {gp : Heap} {args : List V} {pre : List Ch} {R : V → List Ch → Prop} (h : G ⟨Go.Proofs.Tryd.prog, gp, pre.length, [], R, false⟩ [.code f47_c13, .fin] ⟨args ++ List.replicate (18 - args.length) .un, pre⟩) : Tri Go.Proofs.Tryd.prog gp 47 args pre R :=
  tri_intro Go.Proofs.Tryd.func47 f47_body f47_tr f47_rs (by rw [f47_nt]; exact h)

-- f48: no body
-- f49: no body
-- f50: no body
-- f51: trC none
end Go.Fw.L07
