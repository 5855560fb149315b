/- Small codes. -/
import Derived.Test.YtfonfncokpdaaaaGreatDoorFd
import Derived.Test.YtfonfncokpdaaaaGreatDoorProg
set_option linter.all false
namespace Go.Fw.L07
open Go Go.Fw
open Go.Fw.MO renaming op → Qa, chk → Qb, opx → Qc
open Go.Fw.MOp renaming mv → Qd, bin → Qe, load → Qf, fad → Qg, call → Qh, ext → Qi, iad → Qj, len → Qk, store → Ql, pick → Qm
open Go.Fw.Opd renaming t → Qn, c → Qo
open Go.Fw.V renaming one → Qp
open Go.Fw.A renaming d → Qq
open Go.Fw.D renaming int → Qr, bool → Qs
open Go.Fw.Leaf renaming i → Qt
open Go.IntKind renaming i64 → Qu
open Option renaming some → Qv
/-! sigillary/sigillarylaw12.WalkSums -/
def f3_r0 : List MO := [
(Qa (Qv 1) (MOp.box (Qn 0))),
(Qa (Qv 2) (Qd (Qo (Qp (Qq (Qs false))))))]
def f3_c0 : MC := .reg false f3_r0
def f3_r1 : List MO := [
(Qa (Qv 8) (Qh 10 [])),
(Qa (Qv 3) (Qd (Qn 8)))]
def f3_c1 : MC := .reg false f3_r1
def f3_r2 : List MO := [
(Qa (Qv 9) (Qf 2 true (Qn 1))),
(Qa (Qv 10) (Qh 11 [(Qn 9), (Qo (Qp (Qq (Qs true))))])),
(Qa none (Ql 2 (Qn 1) (Qn 10)))]
def f3_c2 : MC := .reg false f3_r2
def f3_r3 : List MO := [
(Qa (Qv 12) (Qf 2 true (Qn 1))),
(Qa (Qv 13) (Qh 12 [(Qn 12)])),
(Qa (Qv 11) (Qd (Qn 13))),
(Qa (Qv 14) (Qi (Qn 11) 0)),
(Qa (Qv 15) (Qi (Qn 11) 1)),
(Qa (Qv 4) (Qd (Qn 14))),
(Qa (Qv 5) (Qd (Qn 15)))]
def f3_c3 : MC := .reg false f3_r3
def f3_r4 : List MO := [
(Qa (Qv 16) (Qd (Qn 5))),
(Qa (Qv 17) (Qe Qt Go.BinOp.neq (Qn 16) (Qo (Qp (Qq (Qr Qu 0))))))]
def f3_c4 : MC := .reg false f3_r4
def f3_r5 : List MO := [
(Qa (Qv 18) (Qd (Qn 3))),
(Qa (Qv 19) (Qd (Qn 18))),
(Qb 19 true (Qv 20)),
(Qa (Qv 20) (Qd (Qn 4))),
(Qb 19 true (Qv 21)),
(Qa (Qv 21) (Qk Qt (Qn 20))),
(Qb 19 true (Qv 22)),
(Qa (Qv 22) (Qe Qt Go.BinOp.eql (Qn 21) (Qo (Qp (Qq (Qr Qu 0)))))),
(Qa (Qv 23) (Qm (Qn 19) (Qn 22) (Qo (Qp (Qq (Qs false)))))),
(Qa (Qv 24) (Qd (Qn 23))),
(Qb 24 true (Qv 25)),
(Qa (Qv 25) (Qf 2 true (Qn 1))),
(Qb 24 true (Qv 26)),
(Qa (Qv 26) (Qh 13 [(Qn 25)])),
(Qb 24 true (Qv 27)),
(Qa (Qv 27) (MOp.not (Qn 26))),
(Qa (Qv 28) (Qm (Qn 24) (Qn 27) (Qo (Qp (Qq (Qs false)))))),
(Qa (Qv 2) (Qd (Qn 28)))]
def f3_c5 : MC := .reg false f3_r5
def f3_c6 : MC := MC.ret
def f3_c7 : MC := .seq f3_c5 f3_c6
def f3_c8 : MC := MC.skip
def f3_c9 : MC := .cond (Qn 17) f3_c7 f3_c8
def f3_c10 : MC := .seq f3_c4 f3_c9
def f3_r11 : List MO := [
(Qa (Qv 29) (Qd (Qn 4))),
(Qa (Qv 30) (Qk Qt (Qn 29))),
(Qa (Qv 31) (Qg 1 (Qn 1))),
(Qa (Qv 32) (Qf 1 false (Qn 31))),
(Qa (Qv 33) (Qk Qt (Qn 32))),
(Qa (Qv 34) (Qe Qt Go.BinOp.neq (Qn 30) (Qn 33)))]
def f3_c11 : MC := .reg false f3_r11
def f3_r12 : List MO := [
(Qa (Qv 2) (Qd (Qo (Qp (Qq (Qs false))))))]
def f3_c12 : MC := .reg false f3_r12
def f3_c13 : MC := MC.ret
def f3_c14 : MC := .seq f3_c12 f3_c13
def f3_c15 : MC := MC.skip
def f3_c16 : MC := .cond (Qn 34) f3_c14 f3_c15
def f3_c17 : MC := .seq f3_c11 f3_c16
def f3_r18 : List MO := [
(Qa (Qv 6) (Qd (Qo (Qp (Qq (Qr Qu 1))))))]
def f3_c18 : MC := .reg false f3_r18
def f3_r19 : List MO := [
(Qa (Qv 7) (Qd (Qo (Qp (Qq (Qr Qu 0))))))]
def f3_c19 : MC := .reg false f3_r19
def f3_r20 : List MO := [
(Qa (Qv 35) (Qd (Qn 7))),
(Qa (Qv 36) (Qd (Qn 4))),
(Qa (Qv 37) (Qk Qt (Qn 36))),
(Qa (Qv 38) (Qe Qt Go.BinOp.lss (Qn 35) (Qn 37)))]
def f3_c20 : MC := .reg false f3_r20
def f3_c21 : MC := MC.skip
def f3_c22 : MC := (MC.exit 0)
def f3_c23 : MC := .cond (Qn 38) f3_c21 f3_c22
def f3_c24 : MC := .seq f3_c20 f3_c23
def f3_r25 : List MO := [
(Qa (Qv 41) (Qd (Qn 4))),
(Qa (Qv 42) (Qd (Qn 7))),
(Qa (Qv 43) (Qj 1 (Qn 41) (Qn 42))),
(Qa (Qv 44) (Qf 1 false (Qn 43))),
(Qa (Qv 45) (Qe Qt Go.BinOp.lss (Qn 44) (Qo (Qp (Qq (Qr Qu 1))))))]
def f3_c25 : MC := .reg false f3_r25
def f3_r26 : List MO := [
(Qa (Qv 2) (Qd (Qo (Qp (Qq (Qs false))))))]
def f3_c26 : MC := .reg false f3_r26
def f3_c27 : MC := MC.ret
def f3_c28 : MC := .seq f3_c26 f3_c27
def f3_c29 : MC := MC.skip
def f3_c30 : MC := .cond (Qn 45) f3_c28 f3_c29
def f3_c31 : MC := .seq f3_c25 f3_c30
def f3_r32 : List MO := [
(Qa (Qv 46) (Qd (Qn 6))),
(Qa (Qv 47) (Qg 1 (Qn 1))),
(Qa (Qv 48) (Qf 1 false (Qn 47))),
(Qa (Qv 49) (Qd (Qn 7))),
(Qa (Qv 50) (Qj 6 (Qn 48) (Qn 49))),
(Qa (Qv 51) (Qg 5 (Qn 50))),
(Qa (Qv 52) (Qf 1 false (Qn 51))),
(Qa (Qv 53) (Qk Qt (Qn 52))),
(Qa (Qv 54) (Qe Qt Go.BinOp.add (Qn 46) (Qn 53))),
(Qa (Qv 55) (Qd (Qn 4))),
(Qa (Qv 56) (Qd (Qn 7))),
(Qa (Qv 57) (Qj 1 (Qn 55) (Qn 56))),
(Qa (Qv 58) (Qf 1 false (Qn 57))),
(Qa (Qv 59) (Qe Qt Go.BinOp.sub (Qn 54) (Qn 58))),
(Qa (Qv 6) (Qd (Qn 59)))]
def f3_c32 : MC := .reg true f3_r32
def f3_c33 : MC := .seq f3_c31 f3_c32
def f3_c34 : MC := .blk 1 f3_c33
def f3_r35 : List MO := [
(Qa (Qv 39) (Qd (Qn 7))),
(Qa (Qv 40) (Qe Qt Go.BinOp.add (Qn 39) (Qo (Qp (Qq (Qr Qu 1)))))),
(Qa (Qv 7) (Qd (Qn 40)))]
def f3_c35 : MC := .reg false f3_r35
def f3_c36 : MC := .seq f3_c34 f3_c35
def f3_c37 : MC := .seq f3_c24 f3_c36
def f3_c38 : MC := .loop f3_c37
def f3_c39 : MC := .blk 0 f3_c38
def f3_c40 : MC := .seq f3_c19 f3_c39
def f3_r41 : List MO := [
(Qa (Qv 60) (Qd (Qn 3))),
(Qa (Qv 61) (Qd (Qn 60))),
(Qb 61 true (Qv 62)),
(Qa (Qv 62) (Qd (Qn 6))),
(Qb 61 true (Qv 63)),
(Qa (Qv 63) (Qe Qt Go.BinOp.eql (Qn 62) (Qo (Qp (Qq (Qr Qu 0)))))),
(Qa (Qv 64) (Qm (Qn 61) (Qn 63) (Qo (Qp (Qq (Qs false)))))),
(Qa (Qv 65) (Qd (Qn 64))),
(Qb 65 true (Qv 66)),
(Qa (Qv 66) (Qf 2 true (Qn 1))),
(Qb 65 true (Qv 67)),
(Qa (Qv 67) (Qh 13 [(Qn 66)])),
(Qa (Qv 68) (Qm (Qn 65) (Qn 67) (Qo (Qp (Qq (Qs false)))))),
(Qa (Qv 2) (Qd (Qn 68)))]
def f3_c41 : MC := .reg false f3_r41
def f3_c42 : MC := MC.ret
def f3_c43 : MC := .seq f3_c41 f3_c42
def f3_c44 : MC := .seq f3_c40 f3_c43
def f3_c45 : MC := .seq f3_c18 f3_c44
def f3_c46 : MC := .seq f3_c17 f3_c45
def f3_c47 : MC := .seq f3_c10 f3_c46
def f3_c48 : MC := .seq f3_c3 f3_c47
def f3_c49 : MC := .seq f3_c2 f3_c48
def f3_c50 : MC := .seq f3_c1 f3_c49
def f3_c51 : MC := .seq f3_c0 f3_c50
noncomputable def f3_code : Code := (Go.Proofs.Tryz.f3.body).getD .skip
theorem f3_body : Go.Proofs.Tryz.f3.body = Qv f3_code := by kernel_rfl
theorem f3_tr : trC Go.Proofs.Tryz.prog [] f3_code = Qv f3_c51 := by kernel_rfl
theorem f3_rs : rsOf Go.Proofs.Tryz.prog Go.Proofs.Tryz.f3.results.toList = Qv [(RV.t 2)] := by kernel_rfl
theorem f3_nt : Go.Proofs.Tryz.f3.ntmps = 69 := by kernel_rfl
theorem f3_ok : callable Go.Proofs.Tryz.prog 3 = true := by kernel_rfl
theorem f3_in {gp : Heap} {args : List V} {res : V} (h : G ⟨Go.Proofs.Tryz.prog, gp, 0, [(RV.t 2)], fun r c => r = res ∧ c = [], false⟩ [.code f3_c51, .fin] ⟨args ++ List.replicate (69 - args.length) .un, []⟩) : Does Go.Proofs.Tryz.prog gp 3 args res :=
  does_intro f3_ok Go.Proofs.Tryz.func3 f3_body f3_tr f3_rs (by rw [f3_nt]; exact h)
theorem f3_tri {gp : Heap} {args : List V} {pre : List Ch} {R : V → List Ch → Prop} (h : G ⟨Go.Proofs.Tryz.prog, gp, pre.length, [(RV.t 2)], R, false⟩ [.code f3_c51, .fin] ⟨args ++ List.replicate (69 - args.length) .un, pre⟩) : Tri Go.Proofs.Tryz.prog gp 3 args pre R :=
  tri_intro Go.Proofs.Tryz.func3 f3_body f3_tr f3_rs (by rw [f3_nt]; exact h)

/-! sigillary/sigillarylaw12.WalkAnchors -/
def f4_r0 : List MO := [
(Qa (Qv 1) (MOp.box (Qn 0))),
(Qa (Qv 2) (Qd (Qo (Qp (Qq (Qs false))))))]
def f4_c0 : MC := .reg false f4_r0
def f4_r1 : List MO := [
(Qa (Qv 10) (Qh 10 [])),
(Qa (Qv 3) (Qd (Qn 10)))]
def f4_c1 : MC := .reg false f4_r1
def f4_r2 : List MO := [
(Qa (Qv 11) (Qf 2 true (Qn 1))),
(Qa (Qv 12) (Qh 11 [(Qn 11), (Qo (Qp (Qq (Qs true))))])),
(Qa none (Ql 2 (Qn 1) (Qn 12)))]
def f4_c2 : MC := .reg false f4_r2
def f4_r3 : List MO := [
(Qa (Qv 14) (Qf 2 true (Qn 1))),
(Qa (Qv 15) (Qh 12 [(Qn 14)])),
(Qa (Qv 13) (Qd (Qn 15))),
(Qa (Qv 16) (Qi (Qn 13) 0)),
(Qa (Qv 17) (Qi (Qn 13) 1)),
(Qa (Qv 4) (Qd (Qn 16))),
(Qa (Qv 5) (Qd (Qn 17)))]
def f4_c3 : MC := .reg false f4_r3
def f4_r4 : List MO := [
(Qa (Qv 19) (Qf 2 true (Qn 1))),
(Qa (Qv 20) (Qh 14 [(Qn 19)])),
(Qa (Qv 18) (Qd (Qn 20))),
(Qa (Qv 21) (Qi (Qn 18) 0)),
(Qa (Qv 22) (Qi (Qn 18) 1)),
(Qa (Qv 6) (Qd (Qn 21))),
(Qa (Qv 7) (Qd (Qn 22)))]
def f4_c4 : MC := .reg false f4_r4
def f4_r5 : List MO := [
(Qa (Qv 23) (Qd (Qn 5))),
(Qa (Qv 24) (Qe Qt Go.BinOp.neq (Qn 23) (Qo (Qp (Qq (Qr Qu 0))))))]
def f4_c5 : MC := .reg false f4_r5
def f4_r6 : List MO := [
(Qa (Qv 25) (Qd (Qn 3))),
(Qa (Qv 26) (Qd (Qn 25))),
(Qb 26 true (Qv 27)),
(Qa (Qv 27) (Qd (Qn 7))),
(Qb 26 true (Qv 28)),
(Qa (Qv 28) (Qd (Qn 5))),
(Qb 26 true (Qv 29)),
(Qa (Qv 29) (Qe Qt Go.BinOp.eql (Qn 27) (Qn 28))),
(Qa (Qv 30) (Qm (Qn 26) (Qn 29) (Qo (Qp (Qq (Qs false)))))),
(Qa (Qv 31) (Qd (Qn 30))),
(Qb 31 true (Qv 32)),
(Qa (Qv 32) (Qd (Qn 6))),
(Qb 31 true (Qv 33)),
(Qa (Qv 33) (Qk Qt (Qn 32))),
(Qb 31 true (Qv 34)),
(Qa (Qv 34) (Qe Qt Go.BinOp.eql (Qn 33) (Qo (Qp (Qq (Qr Qu 0)))))),
(Qa (Qv 35) (Qm (Qn 31) (Qn 34) (Qo (Qp (Qq (Qs false)))))),
(Qa (Qv 2) (Qd (Qn 35)))]
def f4_c6 : MC := .reg false f4_r6
def f4_c7 : MC := MC.ret
def f4_c8 : MC := .seq f4_c6 f4_c7
def f4_c9 : MC := MC.skip
def f4_c10 : MC := .cond (Qn 24) f4_c8 f4_c9
def f4_c11 : MC := .seq f4_c5 f4_c10
def f4_r12 : List MO := [
(Qa (Qv 36) (Qd (Qn 7))),
(Qa (Qv 37) (Qe Qt Go.BinOp.neq (Qn 36) (Qo (Qp (Qq (Qr Qu 0)))))),
(Qa (Qv 38) (Qd (Qn 37))),
(Qb 38 false (Qv 39)),
(Qa (Qv 39) (Qd (Qn 6))),
(Qb 38 false (Qv 40)),
(Qa (Qv 40) (Qk Qt (Qn 39))),
(Qb 38 false (Qv 41)),
(Qa (Qv 41) (Qg 1 (Qn 1))),
(Qb 38 false (Qv 42)),
(Qa (Qv 42) (Qf 1 false (Qn 41))),
(Qb 38 false (Qv 43)),
(Qa (Qv 43) (Qk Qt (Qn 42))),
(Qb 38 false (Qv 44)),
(Qa (Qv 44) (Qe Qt Go.BinOp.neq (Qn 40) (Qn 43))),
(Qa (Qv 45) (Qm (Qn 38) (Qo (Qp (Qq (Qs true)))) (Qn 44))),
(Qa (Qv 46) (Qd (Qn 45))),
(Qb 46 false (Qv 47)),
(Qa (Qv 47) (Qd (Qn 4))),
(Qb 46 false (Qv 48)),
(Qa (Qv 48) (Qk Qt (Qn 47))),
(Qb 46 false (Qv 49)),
(Qa (Qv 49) (Qg 1 (Qn 1))),
(Qb 46 false (Qv 50)),
(Qa (Qv 50) (Qf 1 false (Qn 49))),
(Qb 46 false (Qv 51)),
(Qa (Qv 51) (Qk Qt (Qn 50))),
(Qb 46 false (Qv 52)),
(Qa (Qv 52) (Qe Qt Go.BinOp.neq (Qn 48) (Qn 51))),
(Qa (Qv 53) (Qm (Qn 46) (Qo (Qp (Qq (Qs true)))) (Qn 52)))]
def f4_c12 : MC := .reg false f4_r12
def f4_r13 : List MO := [
(Qa (Qv 2) (Qd (Qo (Qp (Qq (Qs false))))))]
def f4_c13 : MC := .reg false f4_r13
def f4_c14 : MC := MC.ret
def f4_c15 : MC := .seq f4_c13 f4_c14
def f4_c16 : MC := MC.skip
def f4_c17 : MC := .cond (Qn 53) f4_c15 f4_c16
def f4_c18 : MC := .seq f4_c12 f4_c17
def f4_r19 : List MO := [
(Qa (Qv 8) (Qd (Qo (Qp (Qq (Qr Qu 0))))))]
def f4_c19 : MC := .reg false f4_r19
def f4_r20 : List MO := [
(Qa (Qv 9) (Qd (Qo (Qp (Qq (Qr Qu 0))))))]
def f4_c20 : MC := .reg false f4_r20
def f4_r21 : List MO := [
(Qa (Qv 54) (Qd (Qn 9))),
(Qa (Qv 55) (Qd (Qn 6))),
(Qa (Qv 56) (Qk Qt (Qn 55))),
(Qa (Qv 57) (Qe Qt Go.BinOp.lss (Qn 54) (Qn 56)))]
def f4_c21 : MC := .reg false f4_r21
def f4_c22 : MC := MC.skip
def f4_c23 : MC := (MC.exit 0)
def f4_c24 : MC := .cond (Qn 57) f4_c22 f4_c23
def f4_c25 : MC := .seq f4_c21 f4_c24
def f4_r26 : List MO := [
(Qa (Qv 60) (Qd (Qn 6))),
(Qa (Qv 61) (Qd (Qn 9))),
(Qa (Qv 62) (Qj 1 (Qn 60) (Qn 61))),
(Qa (Qv 63) (Qf 1 false (Qn 62))),
(Qa (Qv 64) (Qe Qt Go.BinOp.gtr (Qn 63) (Qo (Qp (Qq (Qr Qu 0)))))),
(Qa (Qv 65) (Qd (Qn 4))),
(Qa (Qv 66) (Qd (Qn 9))),
(Qa (Qv 67) (Qj 1 (Qn 65) (Qn 66))),
(Qa (Qv 68) (Qf 1 false (Qn 67))),
(Qa (Qv 69) (Qe Qt Go.BinOp.gtr (Qn 68) (Qo (Qp (Qq (Qr Qu 1)))))),
(Qa (Qv 70) (Qd (Qn 69))),
(Qb 70 true (Qv 71)),
(Qa (Qv 71) (Qg 1 (Qn 1))),
(Qb 70 true (Qv 72)),
(Qa (Qv 72) (Qf 1 false (Qn 71))),
(Qb 70 true (Qv 73)),
(Qa (Qv 73) (Qd (Qn 9))),
(Qb 70 true (Qv 74)),
(Qa (Qv 74) (Qj 6 (Qn 72) (Qn 73))),
(Qb 70 true (Qv 75)),
(Qa (Qv 75) (Qg 5 (Qn 74))),
(Qb 70 true (Qv 76)),
(Qa (Qv 76) (Qf 1 false (Qn 75))),
(Qb 70 true (Qv 77)),
(Qa (Qv 77) (Qk Qt (Qn 76))),
(Qb 70 true (Qv 78)),
(Qa (Qv 78) (Qe Qt Go.BinOp.gtr (Qn 77) (Qo (Qp (Qq (Qr Qu 0)))))),
(Qa (Qv 79) (Qm (Qn 70) (Qn 78) (Qo (Qp (Qq (Qs false)))))),
(Qa (Qv 80) (Qe Leaf.b Go.BinOp.neq (Qn 64) (Qn 79)))]
def f4_c26 : MC := .reg true f4_r26
def f4_r27 : List MO := [
(Qa (Qv 2) (Qd (Qo (Qp (Qq (Qs false))))))]
def f4_c27 : MC := .reg false f4_r27
def f4_c28 : MC := MC.ret
def f4_c29 : MC := .seq f4_c27 f4_c28
def f4_c30 : MC := MC.skip
def f4_c31 : MC := .cond (Qn 80) f4_c29 f4_c30
def f4_c32 : MC := .seq f4_c26 f4_c31
def f4_r33 : List MO := [
(Qa (Qv 81) (Qd (Qn 6))),
(Qa (Qv 82) (Qd (Qn 9))),
(Qa (Qv 83) (Qj 1 (Qn 81) (Qn 82))),
(Qa (Qv 84) (Qf 1 false (Qn 83))),
(Qa (Qv 85) (Qe Qt Go.BinOp.gtr (Qn 84) (Qo (Qp (Qq (Qr Qu 0))))))]
def f4_c33 : MC := .reg false f4_r33
def f4_r34 : List MO := [
(Qa (Qv 86) (Qd (Qn 8))),
(Qa (Qv 87) (Qe Qt Go.BinOp.add (Qn 86) (Qo (Qp (Qq (Qr Qu 1)))))),
(Qa (Qv 8) (Qd (Qn 87)))]
def f4_c34 : MC := .reg false f4_r34
def f4_r35 : List MO := [
(Qa (Qv 88) (Qd (Qn 6))),
(Qa (Qv 89) (Qd (Qn 9))),
(Qa (Qv 90) (Qj 1 (Qn 88) (Qn 89))),
(Qa (Qv 91) (Qf 1 false (Qn 90))),
(Qa (Qv 92) (Qd (Qn 8))),
(Qa (Qv 93) (Qe Qt Go.BinOp.neq (Qn 91) (Qn 92)))]
def f4_c35 : MC := .reg false f4_r35
def f4_r36 : List MO := [
(Qa (Qv 2) (Qd (Qo (Qp (Qq (Qs false))))))]
def f4_c36 : MC := .reg false f4_r36
def f4_c37 : MC := MC.ret
def f4_c38 : MC := .seq f4_c36 f4_c37
def f4_c39 : MC := MC.skip
def f4_c40 : MC := .cond (Qn 93) f4_c38 f4_c39
def f4_c41 : MC := .seq f4_c35 f4_c40
def f4_c42 : MC := .seq f4_c34 f4_c41
def f4_c43 : MC := MC.skip
def f4_c44 : MC := .cond (Qn 85) f4_c42 f4_c43
def f4_c45 : MC := .seq f4_c33 f4_c44
def f4_c46 : MC := .seq f4_c32 f4_c45
def f4_c47 : MC := .blk 1 f4_c46
def f4_r48 : List MO := [
(Qa (Qv 58) (Qd (Qn 9))),
(Qa (Qv 59) (Qe Qt Go.BinOp.add (Qn 58) (Qo (Qp (Qq (Qr Qu 1)))))),
(Qa (Qv 9) (Qd (Qn 59)))]
def f4_c48 : MC := .reg false f4_r48
def f4_c49 : MC := .seq f4_c47 f4_c48
def f4_c50 : MC := .seq f4_c25 f4_c49
def f4_c51 : MC := .loop f4_c50
def f4_c52 : MC := .blk 0 f4_c51
def f4_c53 : MC := .seq f4_c20 f4_c52
def f4_r54 : List MO := [
(Qa (Qv 94) (Qd (Qn 3))),
(Qa (Qv 2) (Qd (Qn 94)))]
def f4_c54 : MC := .reg false f4_r54
def f4_c55 : MC := MC.ret
def f4_c56 : MC := .seq f4_c54 f4_c55
def f4_c57 : MC := .seq f4_c53 f4_c56
def f4_c58 : MC := .seq f4_c19 f4_c57
def f4_c59 : MC := .seq f4_c18 f4_c58
def f4_c60 : MC := .seq f4_c11 f4_c59
def f4_c61 : MC := .seq f4_c4 f4_c60
def f4_c62 : MC := .seq f4_c3 f4_c61
def f4_c63 : MC := .seq f4_c2 f4_c62
def f4_c64 : MC := .seq f4_c1 f4_c63
def f4_c65 : MC := .seq f4_c0 f4_c64
noncomputable def f4_code : Code := (Go.Proofs.Tryz.f4.body).getD .skip
theorem f4_body : Go.Proofs.Tryz.f4.body = Qv f4_code := by kernel_rfl
theorem f4_tr : trC Go.Proofs.Tryz.prog [] f4_code = Qv f4_c65 := by kernel_rfl
theorem f4_rs : rsOf Go.Proofs.Tryz.prog Go.Proofs.Tryz.f4.results.toList = Qv [(RV.t 2)] := by kernel_rfl
theorem f4_nt : Go.Proofs.Tryz.f4.ntmps = 95 := by kernel_rfl
theorem f4_ok : callable Go.Proofs.Tryz.prog 4 = true := by kernel_rfl
theorem f4_in {gp : Heap} {args : List V} {res : V} (h : G ⟨Go.Proofs.Tryz.prog, gp, 0, [(RV.t 2)], fun r c => r = res ∧ c = [], false⟩ [.code f4_c65, .fin] ⟨args ++ List.replicate (95 - args.length) .un, []⟩) : Does Go.Proofs.Tryz.prog gp 4 args res :=
  does_intro f4_ok Go.Proofs.Tryz.func4 f4_body f4_tr f4_rs (by rw [f4_nt]; exact h)
theorem f4_tri {gp : Heap} {args : List V} {pre : List Ch} {R : V → List Ch → Prop} (h : G ⟨Go.Proofs.Tryz.prog, gp, pre.length, [(RV.t 2)], R, false⟩ [.code f4_c65, .fin] ⟨args ++ List.replicate (95 - args.length) .un, pre⟩) : Tri Go.Proofs.Tryz.prog gp 4 args pre R :=
  tri_intro Go.Proofs.Tryz.func4 f4_body f4_tr f4_rs (by rw [f4_nt]; exact h)

/-! sigillary/sigillarylaw12.WalkDepths -/
def f5_r0 : List MO := [
(Qa (Qv 1) (MOp.box (Qn 0))),
(Qa (Qv 2) (Qd (Qo (Qp (Qq (Qs false))))))]
def f5_c0 : MC := .reg false f5_r0
def f5_r1 : List MO := [
(Qa (Qv 10) (Qh 10 [])),
(Qa (Qv 3) (Qd (Qn 10)))]
def f5_c1 : MC := .reg false f5_r1
def f5_r2 : List MO := [
(Qa (Qv 11) (Qf 2 true (Qn 1))),
(Qa (Qv 12) (Qh 11 [(Qn 11), (Qo (Qp (Qq (Qs true))))])),
(Qa none (Ql 2 (Qn 1) (Qn 12)))]
def f5_c2 : MC := .reg false f5_r2
def f5_r3 : List MO := [
(Qa (Qv 14) (Qf 2 true (Qn 1))),
(Qa (Qv 15) (Qh 15 [(Qn 14)])),
(Qa (Qv 13) (Qd (Qn 15))),
(Qa (Qv 16) (Qi (Qn 13) 0)),
(Qa (Qv 17) (Qi (Qn 13) 1)),
(Qa (Qv 4) (Qd (Qn 16))),
(Qa (Qv 5) (Qd (Qn 17)))]
def f5_c3 : MC := .reg false f5_r3
def f5_r4 : List MO := [
(Qa (Qv 18) (Qd (Qn 5))),
(Qa (Qv 19) (Qe Qt Go.BinOp.neq (Qn 18) (Qo (Qp (Qq (Qr Qu 0))))))]
def f5_c4 : MC := .reg false f5_r4
def f5_r5 : List MO := [
(Qa (Qv 20) (Qd (Qn 3))),
(Qa (Qv 21) (Qd (Qn 20))),
(Qb 21 true (Qv 22)),
(Qa (Qv 22) (Qd (Qn 4))),
(Qb 21 true (Qv 23)),
(Qa (Qv 23) (Qk Qt (Qn 22))),
(Qb 21 true (Qv 24)),
(Qa (Qv 24) (Qe Qt Go.BinOp.eql (Qn 23) (Qo (Qp (Qq (Qr Qu 0)))))),
(Qa (Qv 25) (Qm (Qn 21) (Qn 24) (Qo (Qp (Qq (Qs false)))))),
(Qa (Qv 2) (Qd (Qn 25)))]
def f5_c5 : MC := .reg false f5_r5
def f5_c6 : MC := MC.ret
def f5_c7 : MC := .seq f5_c5 f5_c6
def f5_c8 : MC := MC.skip
def f5_c9 : MC := .cond (Qn 19) f5_c7 f5_c8
def f5_c10 : MC := .seq f5_c4 f5_c9
def f5_r11 : List MO := [
(Qa (Qv 26) (Qd (Qn 4))),
(Qa (Qv 27) (Qk Qt (Qn 26))),
(Qa (Qv 28) (Qg 1 (Qn 1))),
(Qa (Qv 29) (Qf 1 false (Qn 28))),
(Qa (Qv 30) (Qk Qt (Qn 29))),
(Qa (Qv 31) (Qe Qt Go.BinOp.neq (Qn 27) (Qn 30))),
(Qa (Qv 32) (Qd (Qn 31))),
(Qb 32 false (Qv 33)),
(Qa (Qv 33) (Qd (Qn 4))),
(Qb 32 false (Qv 34)),
(Qa (Qv 34) (Qk Qt (Qn 33))),
(Qb 32 false (Qv 35)),
(Qa (Qv 35) (Qe Qt Go.BinOp.eql (Qn 34) (Qo (Qp (Qq (Qr Qu 0)))))),
(Qa (Qv 36) (Qm (Qn 32) (Qo (Qp (Qq (Qs true)))) (Qn 35))),
(Qa (Qv 37) (Qd (Qn 36))),
(Qb 37 false (Qv 38)),
(Qa (Qv 38) (Qd (Qn 4))),
(Qb 37 false (Qv 39)),
(Qa (Qv 39) (Qj 1 (Qn 38) (Qo (Qp (Qq (Qr Qu 0)))))),
(Qb 37 false (Qv 40)),
(Qa (Qv 40) (Qf 1 false (Qn 39))),
(Qb 37 false (Qv 41)),
(Qa (Qv 41) (Qe Qt Go.BinOp.neq (Qn 40) (Qo (Qp (Qq (Qr Qu 1)))))),
(Qa (Qv 42) (Qm (Qn 37) (Qo (Qp (Qq (Qs true)))) (Qn 41)))]
def f5_c11 : MC := .reg false f5_r11
def f5_r12 : List MO := [
(Qa (Qv 2) (Qd (Qo (Qp (Qq (Qs false))))))]
def f5_c12 : MC := .reg false f5_r12
def f5_c13 : MC := MC.ret
def f5_c14 : MC := .seq f5_c12 f5_c13
def f5_c15 : MC := MC.skip
def f5_c16 : MC := .cond (Qn 42) f5_c14 f5_c15
def f5_c17 : MC := .seq f5_c11 f5_c16
def f5_r18 : List MO := [
(Qa (Qv 6) (Qd (Qo (Qp (Qq (Qr Qu 0))))))]
def f5_c18 : MC := .reg false f5_r18
def f5_r19 : List MO := [
(Qa (Qv 43) (Qd (Qn 6))),
(Qa (Qv 44) (Qd (Qn 4))),
(Qa (Qv 45) (Qk Qt (Qn 44))),
(Qa (Qv 46) (Qe Qt Go.BinOp.lss (Qn 43) (Qn 45)))]
def f5_c19 : MC := .reg false f5_r19
def f5_c20 : MC := MC.skip
def f5_c21 : MC := (MC.exit 0)
def f5_c22 : MC := .cond (Qn 46) f5_c20 f5_c21
def f5_c23 : MC := .seq f5_c19 f5_c22
def f5_r24 : List MO := [
(Qa (Qv 49) (Qd (Qn 6))),
(Qa (Qv 50) (Qe Qt Go.BinOp.eql (Qn 49) (Qo (Qp (Qq (Qr Qu 0)))))),
(Qa (Qv 7) (Qd (Qn 50)))]
def f5_c24 : MC := .reg false f5_r24
def f5_r25 : List MO := [
(Qa (Qv 8) (Qd (Qo (Qp (Qq (Qr Qu 0))))))]
def f5_c25 : MC := .reg false f5_r25
def f5_r26 : List MO := [
(Qa (Qv 51) (Qd (Qn 8))),
(Qa (Qv 52) (Qd (Qn 6))),
(Qa (Qv 53) (Qe Qt Go.BinOp.lss (Qn 51) (Qn 52)))]
def f5_c26 : MC := .reg false f5_r26
def f5_c27 : MC := MC.skip
def f5_c28 : MC := (MC.exit 2)
def f5_c29 : MC := .cond (Qn 53) f5_c27 f5_c28
def f5_c30 : MC := .seq f5_c26 f5_c29
def f5_r31 : List MO := [
(Qa (Qv 9) (Qd (Qo (Qp (Qq (Qr Qu 0))))))]
def f5_c31 : MC := .reg false f5_r31
def f5_r32 : List MO := [
(Qa (Qv 56) (Qd (Qn 9))),
(Qa (Qv 57) (Qg 1 (Qn 1))),
(Qa (Qv 58) (Qf 1 false (Qn 57))),
(Qa (Qv 59) (Qd (Qn 8))),
(Qa (Qv 60) (Qj 6 (Qn 58) (Qn 59))),
(Qa (Qv 61) (Qg 5 (Qn 60))),
(Qa (Qv 62) (Qf 1 false (Qn 61))),
(Qa (Qv 63) (Qk Qt (Qn 62))),
(Qa (Qv 64) (Qe Qt Go.BinOp.lss (Qn 56) (Qn 63)))]
def f5_c32 : MC := .reg false f5_r32
def f5_c33 : MC := MC.skip
def f5_c34 : MC := (MC.exit 4)
def f5_c35 : MC := .cond (Qn 64) f5_c33 f5_c34
def f5_c36 : MC := .seq f5_c32 f5_c35
def f5_r37 : List MO := [
(Qa (Qv 67) (Qd (Qn 7))),
(Qa (Qv 68) (Qd (Qn 67))),
(Qb 68 false (Qv 69)),
(Qa (Qv 69) (Qg 1 (Qn 1))),
(Qb 68 false (Qv 70)),
(Qa (Qv 70) (Qf 1 false (Qn 69))),
(Qb 68 false (Qv 71)),
(Qa (Qv 71) (Qd (Qn 8))),
(Qb 68 false (Qv 72)),
(Qa (Qv 72) (Qj 6 (Qn 70) (Qn 71))),
(Qb 68 false (Qv 73)),
(Qa (Qv 73) (Qg 5 (Qn 72))),
(Qb 68 false (Qv 74)),
(Qa (Qv 74) (Qf 1 false (Qn 73))),
(Qb 68 false (Qv 75)),
(Qa (Qv 75) (Qd (Qn 9))),
(Qb 68 false (Qv 76)),
(Qa (Qv 76) (Qj 1 (Qn 74) (Qn 75))),
(Qb 68 false (Qv 77)),
(Qa (Qv 77) (Qf 1 false (Qn 76))),
(Qb 68 false (Qv 78)),
(Qa (Qv 78) (Qd (Qn 6))),
(Qb 68 false (Qv 79)),
(Qa (Qv 79) (Qe Qt Go.BinOp.eql (Qn 77) (Qn 78))),
(Qb 68 false (Qv 80)),
(Qa (Qv 80) (Qd (Qn 79))),
(Qb 80 true (Qv 81)),
(Qa (Qv 81) (Qd (Qn 4))),
(Qb 80 true (Qv 82)),
(Qa (Qv 82) (Qd (Qn 6))),
(Qb 80 true (Qv 83)),
(Qa (Qv 83) (Qj 1 (Qn 81) (Qn 82))),
(Qb 80 true (Qv 84)),
(Qa (Qv 84) (Qf 1 false (Qn 83))),
(Qb 80 true (Qv 85)),
(Qa (Qv 85) (Qd (Qn 4))),
(Qb 80 true (Qv 86)),
(Qa (Qv 86) (Qd (Qn 8))),
(Qb 80 true (Qv 87)),
(Qa (Qv 87) (Qj 1 (Qn 85) (Qn 86))),
(Qb 80 true (Qv 88)),
(Qa (Qv 88) (Qf 1 false (Qn 87))),
(Qb 80 true (Qv 89)),
(Qa (Qv 89) (Qe Qt Go.BinOp.add (Qn 88) (Qo (Qp (Qq (Qr Qu 1)))))),
(Qb 80 true (Qv 90)),
(Qa (Qv 90) (Qe Qt Go.BinOp.eql (Qn 84) (Qn 89))),
(Qb 68 false (Qv 91)),
(Qa (Qv 91) (Qm (Qn 80) (Qn 90) (Qo (Qp (Qq (Qs false)))))),
(Qa (Qv 92) (Qm (Qn 68) (Qo (Qp (Qq (Qs true)))) (Qn 91))),
(Qa (Qv 7) (Qd (Qn 92)))]
def f5_c37 : MC := .reg true f5_r37
def f5_c38 : MC := .blk 5 f5_c37
def f5_r39 : List MO := [
(Qa (Qv 65) (Qd (Qn 9))),
(Qa (Qv 66) (Qe Qt Go.BinOp.add (Qn 65) (Qo (Qp (Qq (Qr Qu 1)))))),
(Qa (Qv 9) (Qd (Qn 66)))]
def f5_c39 : MC := .reg false f5_r39
def f5_c40 : MC := .seq f5_c38 f5_c39
def f5_c41 : MC := .seq f5_c36 f5_c40
def f5_c42 : MC := .loop f5_c41
def f5_c43 : MC := .blk 4 f5_c42
def f5_c44 : MC := .seq f5_c31 f5_c43
def f5_c45 : MC := .blk 3 f5_c44
def f5_r46 : List MO := [
(Qa (Qv 54) (Qd (Qn 8))),
(Qa (Qv 55) (Qe Qt Go.BinOp.add (Qn 54) (Qo (Qp (Qq (Qr Qu 1)))))),
(Qa (Qv 8) (Qd (Qn 55)))]
def f5_c46 : MC := .reg false f5_r46
def f5_c47 : MC := .seq f5_c45 f5_c46
def f5_c48 : MC := .seq f5_c30 f5_c47
def f5_c49 : MC := .loop f5_c48
def f5_c50 : MC := .blk 2 f5_c49
def f5_c51 : MC := .seq f5_c25 f5_c50
def f5_r52 : List MO := [
(Qa (Qv 93) (Qd (Qn 7))),
(Qa (Qv 94) (MOp.not (Qn 93)))]
def f5_c52 : MC := .reg false f5_r52
def f5_r53 : List MO := [
(Qa (Qv 2) (Qd (Qo (Qp (Qq (Qs false))))))]
def f5_c53 : MC := .reg false f5_r53
def f5_c54 : MC := MC.ret
def f5_c55 : MC := .seq f5_c53 f5_c54
def f5_c56 : MC := MC.skip
def f5_c57 : MC := .cond (Qn 94) f5_c55 f5_c56
def f5_c58 : MC := .seq f5_c52 f5_c57
def f5_c59 : MC := .seq f5_c51 f5_c58
def f5_c60 : MC := .seq f5_c24 f5_c59
def f5_c61 : MC := .blk 1 f5_c60
def f5_r62 : List MO := [
(Qa (Qv 47) (Qd (Qn 6))),
(Qa (Qv 48) (Qe Qt Go.BinOp.add (Qn 47) (Qo (Qp (Qq (Qr Qu 1)))))),
(Qa (Qv 6) (Qd (Qn 48)))]
def f5_c62 : MC := .reg false f5_r62
def f5_c63 : MC := .seq f5_c61 f5_c62
def f5_c64 : MC := .seq f5_c23 f5_c63
def f5_c65 : MC := .loop f5_c64
def f5_c66 : MC := .blk 0 f5_c65
def f5_c67 : MC := .seq f5_c18 f5_c66
def f5_r68 : List MO := [
(Qa (Qv 95) (Qd (Qn 3))),
(Qa (Qv 2) (Qd (Qn 95)))]
def f5_c68 : MC := .reg false f5_r68
def f5_c69 : MC := MC.ret
def f5_c70 : MC := .seq f5_c68 f5_c69
def f5_c71 : MC := .seq f5_c67 f5_c70
def f5_c72 : MC := .seq f5_c17 f5_c71
def f5_c73 : MC := .seq f5_c10 f5_c72
def f5_c74 : MC := .seq f5_c3 f5_c73
def f5_c75 : MC := .seq f5_c2 f5_c74
def f5_c76 : MC := .seq f5_c1 f5_c75
def f5_c77 : MC := .seq f5_c0 f5_c76
noncomputable def f5_code : Code := (Go.Proofs.Tryz.f5.body).getD .skip
theorem f5_body : Go.Proofs.Tryz.f5.body = Qv f5_code := by kernel_rfl
theorem f5_tr : trC Go.Proofs.Tryz.prog [] f5_code = Qv f5_c77 := by kernel_rfl
theorem f5_rs : rsOf Go.Proofs.Tryz.prog Go.Proofs.Tryz.f5.results.toList = Qv [(RV.t 2)] := by kernel_rfl
theorem f5_nt : Go.Proofs.Tryz.f5.ntmps = 96 := by kernel_rfl
theorem f5_ok : callable Go.Proofs.Tryz.prog 5 = true := by kernel_rfl
theorem f5_in {gp : Heap} {args : List V} {res : V} (h : G ⟨Go.Proofs.Tryz.prog, gp, 0, [(RV.t 2)], fun r c => r = res ∧ c = [], false⟩ [.code f5_c77, .fin] ⟨args ++ List.replicate (96 - args.length) .un, []⟩) : Does Go.Proofs.Tryz.prog gp 5 args res :=
  does_intro f5_ok Go.Proofs.Tryz.func5 f5_body f5_tr f5_rs (by rw [f5_nt]; exact h)
theorem f5_tri {gp : Heap} {args : List V} {pre : List Ch} {R : V → List Ch → Prop} (h : G ⟨Go.Proofs.Tryz.prog, gp, pre.length, [(RV.t 2)], R, false⟩ [.code f5_c77, .fin] ⟨args ++ List.replicate (96 - args.length) .un, pre⟩) : Tri Go.Proofs.Tryz.prog gp 5 args pre R :=
  tri_intro Go.Proofs.Tryz.func5 f5_body f5_tr f5_rs (by rw [f5_nt]; exact h)

/-! sigillary/sigillarylaw12.WalkTrees -/
def f6_r0 : List MO := [
(Qa (Qv 1) (MOp.box (Qn 0))),
(Qa (Qv 2) (Qd (Qo (Qp (Qq (Qs false))))))]
def f6_c0 : MC := .reg false f6_r0
def f6_r1 : List MO := [
(Qa (Qv 14) (Qh 10 [])),
(Qa (Qv 3) (Qd (Qn 14)))]
def f6_c1 : MC := .reg false f6_r1
def f6_r2 : List MO := [
(Qa (Qv 15) (Qf 2 true (Qn 1))),
(Qa (Qv 16) (Qh 11 [(Qn 15), (Qo (Qp (Qq (Qs true))))])),
(Qa none (Ql 2 (Qn 1) (Qn 16)))]
def f6_c2 : MC := .reg false f6_r2
def f6_r3 : List MO := [
(Qa (Qv 18) (Qf 2 true (Qn 1))),
(Qa (Qv 19) (Qh 12 [(Qn 18)])),
(Qa (Qv 17) (Qd (Qn 19))),
(Qa (Qv 20) (Qi (Qn 17) 0)),
(Qa (Qv 21) (Qi (Qn 17) 1)),
(Qa (Qv 4) (Qd (Qn 20))),
(Qa (Qv 5) (Qd (Qn 21)))]
def f6_c3 : MC := .reg false f6_r3
def f6_r4 : List MO := [
(Qa (Qv 23) (Qf 2 true (Qn 1))),
(Qa (Qv 24) (Qh 14 [(Qn 23)])),
(Qa (Qv 22) (Qd (Qn 24))),
(Qa (Qv 25) (Qi (Qn 22) 0)),
(Qa (Qv 26) (Qi (Qn 22) 1)),
(Qa (Qv 6) (Qd (Qn 25))),
(Qa (Qv 7) (Qd (Qn 26)))]
def f6_c4 : MC := .reg false f6_r4
def f6_r5 : List MO := [
(Qa (Qv 28) (Qf 2 true (Qn 1))),
(Qa (Qv 29) (Qh 15 [(Qn 28)])),
(Qa (Qv 27) (Qd (Qn 29))),
(Qa (Qv 30) (Qi (Qn 27) 0)),
(Qa (Qv 31) (Qi (Qn 27) 1)),
(Qa (Qv 8) (Qd (Qn 30))),
(Qa (Qv 9) (Qd (Qn 31)))]
def f6_c5 : MC := .reg false f6_r5
def f6_r6 : List MO := [
(Qa (Qv 10) (Qd (Qo (Qp (Qq (Qr Qu 1))))))]
def f6_c6 : MC := .reg false f6_r6
def f6_r7 : List MO := [
(Qa (Qv 11) (Qd (Qo (Qp (Qq (Qr Qu 0))))))]
def f6_c7 : MC := .reg false f6_r7
def f6_r8 : List MO := [
(Qa (Qv 32) (Qd (Qn 11))),
(Qa (Qv 33) (Qg 1 (Qn 1))),
(Qa (Qv 34) (Qf 1 false (Qn 33))),
(Qa (Qv 35) (Qk Qt (Qn 34))),
(Qa (Qv 36) (Qe Qt Go.BinOp.lss (Qn 32) (Qn 35)))]
def f6_c8 : MC := .reg false f6_r8
def f6_c9 : MC := MC.skip
def f6_c10 : MC := (MC.exit 0)
def f6_c11 : MC := .cond (Qn 36) f6_c9 f6_c10
def f6_c12 : MC := .seq f6_c8 f6_c11
def f6_r13 : List MO := [
(Qa (Qv 39) (Qd (Qn 10))),
(Qa (Qv 40) (Qg 1 (Qn 1))),
(Qa (Qv 41) (Qf 1 false (Qn 40))),
(Qa (Qv 42) (Qd (Qn 11))),
(Qa (Qv 43) (Qj 6 (Qn 41) (Qn 42))),
(Qa (Qv 44) (Qg 5 (Qn 43))),
(Qa (Qv 45) (Qf 1 false (Qn 44))),
(Qa (Qv 46) (Qk Qt (Qn 45))),
(Qa (Qv 47) (Qe Qt Go.BinOp.add (Qn 39) (Qn 46))),
(Qa (Qv 10) (Qd (Qn 47)))]
def f6_c13 : MC := .reg false f6_r13
def f6_c14 : MC := .blk 1 f6_c13
def f6_r15 : List MO := [
(Qa (Qv 37) (Qd (Qn 11))),
(Qa (Qv 38) (Qe Qt Go.BinOp.add (Qn 37) (Qo (Qp (Qq (Qr Qu 1)))))),
(Qa (Qv 11) (Qd (Qn 38)))]
def f6_c15 : MC := .reg false f6_r15
def f6_c16 : MC := .seq f6_c14 f6_c15
def f6_c17 : MC := .seq f6_c12 f6_c16
def f6_c18 : MC := .loop f6_c17
def f6_c19 : MC := .blk 0 f6_c18
def f6_c20 : MC := .seq f6_c7 f6_c19
def f6_r21 : List MO := [
(Qa (Qv 48) (Qd (Qn 5))),
(Qa (Qv 49) (Qe Qt Go.BinOp.neq (Qn 48) (Qo (Qp (Qq (Qr Qu 0)))))),
(Qa (Qv 50) (Qd (Qn 49))),
(Qb 50 false (Qv 51)),
(Qa (Qv 51) (Qd (Qn 10))),
(Qb 50 false (Qv 52)),
(Qa (Qv 52) (Qg 1 (Qn 1))),
(Qb 50 false (Qv 53)),
(Qa (Qv 53) (Qf 1 false (Qn 52))),
(Qb 50 false (Qv 54)),
(Qa (Qv 54) (Qk Qt (Qn 53))),
(Qb 50 false (Qv 55)),
(Qa (Qv 55) (Qe Qt Go.BinOp.neq (Qn 51) (Qn 54))),
(Qa (Qv 56) (Qm (Qn 50) (Qo (Qp (Qq (Qs true)))) (Qn 55)))]
def f6_c21 : MC := .reg false f6_r21
def f6_r22 : List MO := [
(Qa (Qv 57) (Qd (Qn 3))),
(Qa (Qv 2) (Qd (Qn 57)))]
def f6_c22 : MC := .reg false f6_r22
def f6_c23 : MC := MC.ret
def f6_c24 : MC := .seq f6_c22 f6_c23
def f6_c25 : MC := MC.skip
def f6_c26 : MC := .cond (Qn 56) f6_c24 f6_c25
def f6_c27 : MC := .seq f6_c21 f6_c26
def f6_r28 : List MO := [
(Qa (Qv 58) (Qd (Qn 7))),
(Qa (Qv 59) (Qe Qt Go.BinOp.neq (Qn 58) (Qo (Qp (Qq (Qr Qu 0)))))),
(Qa (Qv 60) (Qd (Qn 59))),
(Qb 60 false (Qv 61)),
(Qa (Qv 61) (Qd (Qn 9))),
(Qb 60 false (Qv 62)),
(Qa (Qv 62) (Qe Qt Go.BinOp.neq (Qn 61) (Qo (Qp (Qq (Qr Qu 0)))))),
(Qa (Qv 63) (Qm (Qn 60) (Qo (Qp (Qq (Qs true)))) (Qn 62))),
(Qa (Qv 64) (Qd (Qn 63))),
(Qb 64 false (Qv 65)),
(Qa (Qv 65) (Qd (Qn 4))),
(Qb 64 false (Qv 66)),
(Qa (Qv 66) (Qk Qt (Qn 65))),
(Qb 64 false (Qv 67)),
(Qa (Qv 67) (Qd (Qn 10))),
(Qb 64 false (Qv 68)),
(Qa (Qv 68) (Qe Qt Go.BinOp.neq (Qn 66) (Qn 67))),
(Qa (Qv 69) (Qm (Qn 64) (Qo (Qp (Qq (Qs true)))) (Qn 68))),
(Qa (Qv 70) (Qd (Qn 69))),
(Qb 70 false (Qv 71)),
(Qa (Qv 71) (Qd (Qn 6))),
(Qb 70 false (Qv 72)),
(Qa (Qv 72) (Qk Qt (Qn 71))),
(Qb 70 false (Qv 73)),
(Qa (Qv 73) (Qd (Qn 10))),
(Qb 70 false (Qv 74)),
(Qa (Qv 74) (Qe Qt Go.BinOp.neq (Qn 72) (Qn 73))),
(Qa (Qv 75) (Qm (Qn 70) (Qo (Qp (Qq (Qs true)))) (Qn 74))),
(Qa (Qv 76) (Qd (Qn 75))),
(Qb 76 false (Qv 77)),
(Qa (Qv 77) (Qd (Qn 8))),
(Qb 76 false (Qv 78)),
(Qa (Qv 78) (Qk Qt (Qn 77))),
(Qb 76 false (Qv 79)),
(Qa (Qv 79) (Qd (Qn 10))),
(Qb 76 false (Qv 80)),
(Qa (Qv 80) (Qe Qt Go.BinOp.neq (Qn 78) (Qn 79))),
(Qa (Qv 81) (Qm (Qn 76) (Qo (Qp (Qq (Qs true)))) (Qn 80)))]
def f6_c28 : MC := .reg false f6_r28
def f6_r29 : List MO := [
(Qa (Qv 2) (Qd (Qo (Qp (Qq (Qs false))))))]
def f6_c29 : MC := .reg false f6_r29
def f6_c30 : MC := MC.ret
def f6_c31 : MC := .seq f6_c29 f6_c30
def f6_c32 : MC := MC.skip
def f6_c33 : MC := .cond (Qn 81) f6_c31 f6_c32
def f6_c34 : MC := .seq f6_c28 f6_c33
def f6_r35 : List MO := [
(Qa (Qv 12) (Qd (Qo (Qp (Qq (Qr Qu 0))))))]
def f6_c35 : MC := .reg false f6_r35
def f6_r36 : List MO := [
(Qa (Qv 82) (Qd (Qn 12))),
(Qa (Qv 83) (Qd (Qn 10))),
(Qa (Qv 84) (Qe Qt Go.BinOp.lss (Qn 82) (Qn 83)))]
def f6_c36 : MC := .reg false f6_r36
def f6_c37 : MC := MC.skip
def f6_c38 : MC := (MC.exit 2)
def f6_c39 : MC := .cond (Qn 84) f6_c37 f6_c38
def f6_c40 : MC := .seq f6_c36 f6_c39
def f6_r41 : List MO := [
(Qa (Qv 87) (Qd (Qn 4))),
(Qa (Qv 88) (Qd (Qn 12))),
(Qa (Qv 89) (Qj 1 (Qn 87) (Qn 88))),
(Qa (Qv 90) (Qf 1 false (Qn 89))),
(Qa (Qv 91) (Qe Qt Go.BinOp.neq (Qn 90) (Qo (Qp (Qq (Qr Qu 1)))))),
(Qa (Qv 92) (Qd (Qn 91))),
(Qb 92 false (Qv 93)),
(Qa (Qv 93) (Qd (Qn 6))),
(Qb 92 false (Qv 94)),
(Qa (Qv 94) (Qd (Qn 12))),
(Qb 92 false (Qv 95)),
(Qa (Qv 95) (Qj 1 (Qn 93) (Qn 94))),
(Qb 92 false (Qv 96)),
(Qa (Qv 96) (Qf 1 false (Qn 95))),
(Qb 92 false (Qv 97)),
(Qa (Qv 97) (Qe Qt Go.BinOp.neq (Qn 96) (Qo (Qp (Qq (Qr Qu 0)))))),
(Qa (Qv 98) (Qm (Qn 92) (Qo (Qp (Qq (Qs true)))) (Qn 97)))]
def f6_c41 : MC := .reg false f6_r41
def f6_r42 : List MO := [
(Qa (Qv 2) (Qd (Qo (Qp (Qq (Qs false))))))]
def f6_c42 : MC := .reg false f6_r42
def f6_c43 : MC := MC.ret
def f6_c44 : MC := .seq f6_c42 f6_c43
def f6_c45 : MC := MC.skip
def f6_c46 : MC := .cond (Qn 98) f6_c44 f6_c45
def f6_c47 : MC := .seq f6_c41 f6_c46
def f6_r48 : List MO := [
(Qa (Qv 13) (Qd (Qo (Qp (Qq (Qr Qu 0))))))]
def f6_c48 : MC := .reg false f6_r48
def f6_r49 : List MO := [
(Qa (Qv 99) (Qd (Qn 13))),
(Qa (Qv 100) (Qg 1 (Qn 1))),
(Qa (Qv 101) (Qf 1 false (Qn 100))),
(Qa (Qv 102) (Qd (Qn 12))),
(Qa (Qv 103) (Qj 6 (Qn 101) (Qn 102))),
(Qa (Qv 104) (Qg 5 (Qn 103))),
(Qa (Qv 105) (Qf 1 false (Qn 104))),
(Qa (Qv 106) (Qk Qt (Qn 105))),
(Qa (Qv 107) (Qe Qt Go.BinOp.lss (Qn 99) (Qn 106)))]
def f6_c49 : MC := .reg false f6_r49
def f6_c50 : MC := MC.skip
def f6_c51 : MC := (MC.exit 4)
def f6_c52 : MC := .cond (Qn 107) f6_c50 f6_c51
def f6_c53 : MC := .seq f6_c49 f6_c52
def f6_r54 : List MO := [
(Qa (Qv 110) (Qd (Qn 8))),
(Qa (Qv 111) (Qg 1 (Qn 1))),
(Qa (Qv 112) (Qf 1 false (Qn 111))),
(Qa (Qv 113) (Qd (Qn 12))),
(Qa (Qv 114) (Qj 6 (Qn 112) (Qn 113))),
(Qa (Qv 115) (Qg 5 (Qn 114))),
(Qa (Qv 116) (Qf 1 false (Qn 115))),
(Qa (Qv 117) (Qd (Qn 13))),
(Qa (Qv 118) (Qj 1 (Qn 116) (Qn 117))),
(Qa (Qv 119) (Qf 1 false (Qn 118))),
(Qa (Qv 120) (Qj 1 (Qn 110) (Qn 119))),
(Qa (Qv 121) (Qf 1 false (Qn 120))),
(Qa (Qv 122) (Qd (Qn 8))),
(Qa (Qv 123) (Qd (Qn 12))),
(Qa (Qv 124) (Qj 1 (Qn 122) (Qn 123))),
(Qa (Qv 125) (Qf 1 false (Qn 124))),
(Qa (Qv 126) (Qe Qt Go.BinOp.add (Qn 125) (Qo (Qp (Qq (Qr Qu 1)))))),
(Qa (Qv 127) (Qe Qt Go.BinOp.neq (Qn 121) (Qn 126)))]
def f6_c54 : MC := .reg true f6_r54
def f6_r55 : List MO := [
(Qa (Qv 2) (Qd (Qo (Qp (Qq (Qs false))))))]
def f6_c55 : MC := .reg false f6_r55
def f6_c56 : MC := MC.ret
def f6_c57 : MC := .seq f6_c55 f6_c56
def f6_c58 : MC := MC.skip
def f6_c59 : MC := .cond (Qn 127) f6_c57 f6_c58
def f6_c60 : MC := .seq f6_c54 f6_c59
def f6_c61 : MC := .blk 5 f6_c60
def f6_r62 : List MO := [
(Qa (Qv 108) (Qd (Qn 13))),
(Qa (Qv 109) (Qe Qt Go.BinOp.add (Qn 108) (Qo (Qp (Qq (Qr Qu 1)))))),
(Qa (Qv 13) (Qd (Qn 109)))]
def f6_c62 : MC := .reg false f6_r62
def f6_c63 : MC := .seq f6_c61 f6_c62
def f6_c64 : MC := .seq f6_c53 f6_c63
def f6_c65 : MC := .loop f6_c64
def f6_c66 : MC := .blk 4 f6_c65
def f6_c67 : MC := .seq f6_c48 f6_c66
def f6_c68 : MC := .seq f6_c47 f6_c67
def f6_c69 : MC := .blk 3 f6_c68
def f6_r70 : List MO := [
(Qa (Qv 85) (Qd (Qn 12))),
(Qa (Qv 86) (Qe Qt Go.BinOp.add (Qn 85) (Qo (Qp (Qq (Qr Qu 1)))))),
(Qa (Qv 12) (Qd (Qn 86)))]
def f6_c70 : MC := .reg false f6_r70
def f6_c71 : MC := .seq f6_c69 f6_c70
def f6_c72 : MC := .seq f6_c40 f6_c71
def f6_c73 : MC := .loop f6_c72
def f6_c74 : MC := .blk 2 f6_c73
def f6_c75 : MC := .seq f6_c35 f6_c74
def f6_r76 : List MO := [
(Qa (Qv 128) (Qd (Qn 3))),
(Qa (Qv 2) (Qd (Qn 128)))]
def f6_c76 : MC := .reg false f6_r76
def f6_c77 : MC := MC.ret
def f6_c78 : MC := .seq f6_c76 f6_c77
def f6_c79 : MC := .seq f6_c75 f6_c78
def f6_c80 : MC := .seq f6_c34 f6_c79
def f6_c81 : MC := .seq f6_c27 f6_c80
def f6_c82 : MC := .seq f6_c20 f6_c81
def f6_c83 : MC := .seq f6_c6 f6_c82
def f6_c84 : MC := .seq f6_c5 f6_c83
def f6_c85 : MC := .seq f6_c4 f6_c84
def f6_c86 : MC := .seq f6_c3 f6_c85
def f6_c87 : MC := .seq f6_c2 f6_c86
def f6_c88 : MC := .seq f6_c1 f6_c87
def f6_c89 : MC := .seq f6_c0 f6_c88
noncomputable def f6_code : Code := (Go.Proofs.Tryz.f6.body).getD .skip
theorem f6_body : Go.Proofs.Tryz.f6.body = Qv f6_code := by kernel_rfl
theorem f6_tr : trC Go.Proofs.Tryz.prog [] f6_code = Qv f6_c89 := by kernel_rfl
theorem f6_rs : rsOf Go.Proofs.Tryz.prog Go.Proofs.Tryz.f6.results.toList = Qv [(RV.t 2)] := by kernel_rfl
theorem f6_nt : Go.Proofs.Tryz.f6.ntmps = 129 := by kernel_rfl
theorem f6_ok : callable Go.Proofs.Tryz.prog 6 = true := by kernel_rfl
theorem f6_in {gp : Heap} {args : List V} {res : V} (h : G ⟨Go.Proofs.Tryz.prog, gp, 0, [(RV.t 2)], fun r c => r = res ∧ c = [], false⟩ [.code f6_c89, .fin] ⟨args ++ List.replicate (129 - args.length) .un, []⟩) : Does Go.Proofs.Tryz.prog gp 6 args res :=
  does_intro f6_ok Go.Proofs.Tryz.func6 f6_body f6_tr f6_rs (by rw [f6_nt]; exact h)
theorem f6_tri {gp : Heap} {args : List V} {pre : List Ch} {R : V → List Ch → Prop} (h : G ⟨Go.Proofs.Tryz.prog, gp, pre.length, [(RV.t 2)], R, false⟩ [.code f6_c89, .fin] ⟨args ++ List.replicate (129 - args.length) .un, pre⟩) : Tri Go.Proofs.Tryz.prog gp 6 args pre R :=
  tri_intro Go.Proofs.Tryz.func6 f6_body f6_tr f6_rs (by rw [f6_nt]; exact h)

/-! sigillary/sigillarylaw12.shown -/
def f10_r0 : List MO := [
(Qa (Qv 0) (Qd (Qo (Qp (Qq (Qs false))))))]
def f10_c0 : MC := .reg false f10_r0
def f10_r1 : List MO := [
(Qa (Qv 10) (MOp.bslice 1 [(Qr Qu 0)] 3 [(0, (Qo (Qp (Qq (Qr Qu 1))))), (1, (Qo (Qp (Qq (Qr Qu 1))))), (2, (Qo (Qp (Qq (Qr Qu 0)))))])),
(Qa (Qv 11) (MOp.build [(Qr Qu 0), (Qr Qu 0), (Qr Qu 0), (D.str (ByteArray.mk #[])), (D.sl []), (D.sl [])] [(0, (1, (Qo (Qp (Qq (Qr Qu 1)))))), (5, (1, (Qn 10)))])),
(Qa (Qv 12) (MOp.bslice 1 [(Qr Qu 0)] 1 [(0, (Qo (Qp (Qq (Qr Qu 2)))))])),
(Qa (Qv 13) (MOp.build [(Qr Qu 0), (Qr Qu 0), (Qr Qu 0), (D.str (ByteArray.mk #[])), (D.sl []), (D.sl [])] [(0, (1, (Qo (Qp (Qq (Qr Qu 1)))))), (5, (1, (Qn 12)))])),
(Qa (Qv 14) (MOp.build [(Qr Qu 0), (Qr Qu 0), (Qr Qu 0), (D.str (ByteArray.mk #[])), (D.sl []), (D.sl [])] [])),
(Qa (Qv 15) (MOp.bslice 6 [(Qr Qu 0), (Qr Qu 0), (Qr Qu 0), (D.str (ByteArray.mk #[])), (D.sl []), (D.sl [])] 3 [(0, (Qn 11)), (1, (Qn 13)), (2, (Qn 14))])),
(Qa (Qv 16) (MOp.build [(Qr Qu 0), (D.sl [])] [(1, (1, (Qn 15)))])),
(Qa (Qv 1) (MOp.alloc [(Qr Qu 0), (D.sl [])])),
(Qa none (Ql 2 (Qn 1) (Qn 16)))]
def f10_c1 : MC := .reg false f10_r1
def f10_r2 : List MO := [
(Qa (Qv 18) (Qf 2 true (Qn 1))),
(Qa (Qv 19) (Qh 12 [(Qn 18)])),
(Qa (Qv 17) (Qd (Qn 19))),
(Qa (Qv 20) (Qi (Qn 17) 0)),
(Qa (Qv 21) (Qi (Qn 17) 1)),
(Qa (Qv 2) (Qd (Qn 20))),
(Qa (Qv 3) (Qd (Qn 21)))]
def f10_c2 : MC := .reg false f10_r2
def f10_r3 : List MO := [
(Qa (Qv 23) (Qf 2 true (Qn 1))),
(Qa (Qv 24) (Qh 14 [(Qn 23)])),
(Qa (Qv 22) (Qd (Qn 24))),
(Qa (Qv 25) (Qi (Qn 22) 0)),
(Qa (Qv 26) (Qi (Qn 22) 1)),
(Qa (Qv 4) (Qd (Qn 25))),
(Qa (Qv 5) (Qd (Qn 26)))]
def f10_c3 : MC := .reg false f10_r3
def f10_r4 : List MO := [
(Qa (Qv 28) (Qf 2 true (Qn 1))),
(Qa (Qv 29) (Qh 15 [(Qn 28)])),
(Qa (Qv 27) (Qd (Qn 29))),
(Qa (Qv 30) (Qi (Qn 27) 0)),
(Qa (Qv 31) (Qi (Qn 27) 1)),
(Qa (Qv 6) (Qd (Qn 30))),
(Qa (Qv 7) (Qd (Qn 31)))]
def f10_c4 : MC := .reg false f10_r4
def f10_r5 : List MO := [
(Qa (Qv 33) (Qg 1 (Qn 1))),
(Qa (Qv 34) (Qf 1 false (Qn 33))),
(Qa (Qv 35) (MOp.build [(Qr Qu 0), (D.sl [])] [(0, (1, (Qo (Qp (Qq (Qr Qu 1)))))), (1, (1, (Qn 34)))])),
(Qa (Qv 36) (Qh 12 [(Qn 35)])),
(Qa (Qv 32) (Qd (Qn 36))),
(Qa (Qv 37) (Qi (Qn 32) 0)),
(Qa (Qv 38) (Qi (Qn 32) 1)),
(Qa (Qv 8) (Qd (Qn 37))),
(Qa (Qv 9) (Qd (Qn 38)))]
def f10_c5 : MC := .reg false f10_r5
def f10_r6 : List MO := [
(Qa (Qv 39) (Qd (Qn 3))),
(Qa (Qv 40) (Qe Qt Go.BinOp.eql (Qn 39) (Qo (Qp (Qq (Qr Qu 0)))))),
(Qa (Qv 41) (Qd (Qn 40))),
(Qb 41 true (Qv 42)),
(Qa (Qv 42) (Qd (Qn 2))),
(Qb 41 true (Qv 43)),
(Qa (Qv 43) (MOp.bslice 1 [(Qr Qu 0)] 3 [(0, (Qo (Qp (Qq (Qr Qu 2))))), (1, (Qo (Qp (Qq (Qr Qu 2))))), (2, (Qo (Qp (Qq (Qr Qu 1)))))])),
(Qb 41 true (Qv 44)),
(Qa (Qv 44) (Qh 24 [(Qn 42), (Qn 43)])),
(Qa (Qv 45) (Qm (Qn 41) (Qn 44) (Qo (Qp (Qq (Qs false)))))),
(Qa (Qv 46) (Qd (Qn 45))),
(Qb 46 true (Qv 47)),
(Qa (Qv 47) (Qd (Qn 5))),
(Qb 46 true (Qv 48)),
(Qa (Qv 48) (Qe Qt Go.BinOp.eql (Qn 47) (Qo (Qp (Qq (Qr Qu 0)))))),
(Qa (Qv 49) (Qm (Qn 46) (Qn 48) (Qo (Qp (Qq (Qs false)))))),
(Qa (Qv 50) (Qd (Qn 49))),
(Qb 50 true (Qv 51)),
(Qa (Qv 51) (Qd (Qn 4))),
(Qb 50 true (Qv 52)),
(Qa (Qv 52) (MOp.bslice 1 [(Qr Qu 0)] 3 [(0, (Qo (Qp (Qq (Qr Qu 1))))), (1, (Qo (Qp (Qq (Qr Qu 2))))), (2, (Qo (Qp (Qq (Qr Qu 0)))))])),
(Qb 50 true (Qv 53)),
(Qa (Qv 53) (Qh 24 [(Qn 51), (Qn 52)])),
(Qa (Qv 54) (Qm (Qn 50) (Qn 53) (Qo (Qp (Qq (Qs false)))))),
(Qa (Qv 55) (Qd (Qn 54))),
(Qb 55 true (Qv 56)),
(Qa (Qv 56) (Qd (Qn 7))),
(Qb 55 true (Qv 57)),
(Qa (Qv 57) (Qe Qt Go.BinOp.eql (Qn 56) (Qo (Qp (Qq (Qr Qu 0)))))),
(Qa (Qv 58) (Qm (Qn 55) (Qn 57) (Qo (Qp (Qq (Qs false)))))),
(Qa (Qv 59) (Qd (Qn 58))),
(Qb 59 true (Qv 60)),
(Qa (Qv 60) (Qd (Qn 6))),
(Qb 59 true (Qv 61)),
(Qa (Qv 61) (MOp.bslice 1 [(Qr Qu 0)] 3 [(0, (Qo (Qp (Qq (Qr Qu 1))))), (1, (Qo (Qp (Qq (Qr Qu 2))))), (2, (Qo (Qp (Qq (Qr Qu 3)))))])),
(Qb 59 true (Qv 62)),
(Qa (Qv 62) (Qh 24 [(Qn 60), (Qn 61)])),
(Qa (Qv 63) (Qm (Qn 59) (Qn 62) (Qo (Qp (Qq (Qs false)))))),
(Qa (Qv 64) (Qd (Qn 63))),
(Qb 64 true (Qv 65)),
(Qa (Qv 65) (Qd (Qn 9))),
(Qb 64 true (Qv 66)),
(Qa (Qv 66) (Qe Qt Go.BinOp.eql (Qn 65) (Qo (Qp (Qq (Qr Qu 72)))))),
(Qa (Qv 67) (Qm (Qn 64) (Qn 66) (Qo (Qp (Qq (Qs false)))))),
(Qa (Qv 0) (Qd (Qn 67)))]
def f10_c6 : MC := .reg false f10_r6
def f10_c7 : MC := MC.ret
def f10_c8 : MC := .seq f10_c6 f10_c7
def f10_c9 : MC := .seq f10_c5 f10_c8
def f10_c10 : MC := .seq f10_c4 f10_c9
def f10_c11 : MC := .seq f10_c3 f10_c10
def f10_c12 : MC := .seq f10_c2 f10_c11
def f10_c13 : MC := .seq f10_c1 f10_c12
def f10_c14 : MC := .seq f10_c0 f10_c13
noncomputable def f10_code : Code := (Go.Proofs.Tryz.f10.body).getD .skip
theorem f10_body : Go.Proofs.Tryz.f10.body = Qv f10_code := by kernel_rfl
theorem f10_tr : trC Go.Proofs.Tryz.prog [] f10_code = Qv f10_c14 := by kernel_rfl
theorem f10_rs : rsOf Go.Proofs.Tryz.prog Go.Proofs.Tryz.f10.results.toList = Qv [(RV.t 0)] := by kernel_rfl
theorem f10_nt : Go.Proofs.Tryz.f10.ntmps = 68 := by kernel_rfl
theorem f10_ok : callable Go.Proofs.Tryz.prog 10 = true := by kernel_rfl
theorem f10_in {gp : Heap} {args : List V} {res : V} (h : G ⟨Go.Proofs.Tryz.prog, gp, 0, [(RV.t 0)], fun r c => r = res ∧ c = [], false⟩ [.code f10_c14, .fin] ⟨args ++ List.replicate (68 - args.length) .un, []⟩) : Does Go.Proofs.Tryz.prog gp 10 args res :=
  does_intro f10_ok Go.Proofs.Tryz.func10 f10_body f10_tr f10_rs (by rw [f10_nt]; exact h)
theorem f10_tri {gp : Heap} {args : List V} {pre : List Ch} {R : V → List Ch → Prop} (h : G ⟨Go.Proofs.Tryz.prog, gp, pre.length, [(RV.t 0)], R, false⟩ [.code f10_c14, .fin] ⟨args ++ List.replicate (68 - args.length) .un, pre⟩) : Tri Go.Proofs.Tryz.prog gp 10 args pre R :=
  tri_intro Go.Proofs.Tryz.func10 f10_body f10_tr f10_rs (by rw [f10_nt]; exact h)

/-! sigillary/sigillarylaw12.tidied -/
def f11_r0 : List MO := [
(Qa (Qv 2) (MOp.box (Qn 0))),
(Qa (Qv 4) (MOp.alloc [(Qr Qu 0), (D.sl [])]))]
def f11_c0 : MC := .reg false f11_r0
def f11_r1 : List MO := [
(Qa (Qv 7) (Qf 2 true (Qn 2))),
(Qa (Qv 8) (Qh 25 [(Qn 7)])),
(Qa none (Ql 2 (Qn 2) (Qn 8)))]
def f11_c1 : MC := .reg false f11_r1
def f11_r2 : List MO := [
(Qa (Qv 10) (Qf 2 true (Qn 2))),
(Qa (Qv 11) (Qh 22 [(Qn 10)])),
(Qa (Qv 9) (Qd (Qn 11))),
(Qa (Qv 12) (Qi (Qn 9) 0)),
(Qa (Qv 13) (Qi (Qn 9) 1)),
(Qa (Qv 5) (MOp.alloc [(Qr Qu 0), (D.sl [])])),
(Qa none (Ql 2 (Qn 5) (Qn 12))),
(Qa (Qv 6) (Qd (Qn 13)))]
def f11_c2 : MC := .reg false f11_r2
def f11_r3 : List MO := [
(Qa (Qv 14) (Qd (Qn 1))),
(Qa (Qv 15) (Qd (Qn 14))),
(Qb 15 true (Qv 16)),
(Qa (Qv 16) (Qd (Qn 6))),
(Qb 15 true (Qv 17)),
(Qa (Qv 17) (Qe Qt Go.BinOp.eql (Qn 16) (Qo (Qp (Qq (Qr Qu 0)))))),
(Qa (Qv 18) (Qm (Qn 15) (Qn 17) (Qo (Qp (Qq (Qs false))))))]
def f11_c3 : MC := .reg false f11_r3
def f11_r4 : List MO := [
(Qa (Qv 19) (Qf 2 true (Qn 5))),
(Qa none (Ql 2 (Qn 4) (Qn 19)))]
def f11_c4 : MC := .reg false f11_r4
def f11_c5 : MC := MC.ret
def f11_c6 : MC := .seq f11_c4 f11_c5
def f11_c7 : MC := MC.skip
def f11_c8 : MC := .cond (Qn 18) f11_c6 f11_c7
def f11_c9 : MC := .seq f11_c3 f11_c8
def f11_r10 : List MO := [
(Qa (Qv 20) (Qf 2 true (Qn 2))),
(Qa none (Ql 2 (Qn 4) (Qn 20)))]
def f11_c10 : MC := .reg false f11_r10
def f11_c11 : MC := MC.ret
def f11_c12 : MC := .seq f11_c10 f11_c11
def f11_c13 : MC := .seq f11_c9 f11_c12
def f11_c14 : MC := .seq f11_c2 f11_c13
def f11_c15 : MC := .seq f11_c1 f11_c14
def f11_c16 : MC := .seq f11_c0 f11_c15
noncomputable def f11_code : Code := (Go.Proofs.Tryz.f11.body).getD .skip
theorem f11_body : Go.Proofs.Tryz.f11.body = Qv f11_code := by kernel_rfl
theorem f11_tr : trC Go.Proofs.Tryz.prog [] f11_code = Qv f11_c16 := by kernel_rfl
theorem f11_rs : rsOf Go.Proofs.Tryz.prog Go.Proofs.Tryz.f11.results.toList = Qv [(RV.cell 4 2 true)] := by kernel_rfl
theorem f11_nt : Go.Proofs.Tryz.f11.ntmps = 21 := by kernel_rfl
theorem f11_ok : callable Go.Proofs.Tryz.prog 11 = true := by kernel_rfl
theorem f11_in {gp : Heap} {args : List V} {res : V} (h : G ⟨Go.Proofs.Tryz.prog, gp, 0, [(RV.cell 4 2 true)], fun r c => r = res ∧ c = [], false⟩ [.code f11_c16, .fin] ⟨args ++ List.replicate (21 - args.length) .un, []⟩) : Does Go.Proofs.Tryz.prog gp 11 args res :=
  does_intro f11_ok Go.Proofs.Tryz.func11 f11_body f11_tr f11_rs (by rw [f11_nt]; exact h)
theorem f11_tri {gp : Heap} {args : List V} {pre : List Ch} {R : V → List Ch → Prop} (h : G ⟨Go.Proofs.Tryz.prog, gp, pre.length, [(RV.cell 4 2 true)], R, false⟩ [.code f11_c16, .fin] ⟨args ++ List.replicate (21 - args.length) .un, pre⟩) : Tri Go.Proofs.Tryz.prog gp 11 args pre R :=
  tri_intro Go.Proofs.Tryz.func11 f11_body f11_tr f11_rs (by rw [f11_nt]; exact h)

/-! sigillary/walk.Uses -/
def f12_r0 : List MO := [
(Qa (Qv 1) (MOp.ibox (Qn 0))),
(Qa (Qv 2) (Qd (Qo (Qp A.nil)))),
(Qa (Qv 3) (Qd (Qo (Qp (Qq (Qr Qu 0))))))]
def f12_c0 : MC := .reg false f12_r0
def f12_r1 : List MO := [
(Qa (Qv 7) (Qf 2 true (Qn 1))),
(Qa (Qv 8) (Qh 26 [(Qn 7)])),
(Qa (Qv 6) (Qd (Qn 8))),
(Qa (Qv 9) (Qi (Qn 6) 0)),
(Qa (Qv 10) (Qi (Qn 6) 1)),
(Qa (Qv 4) (Qd (Qn 9))),
(Qa (Qv 5) (Qd (Qn 10)))]
def f12_c1 : MC := .reg false f12_r1
def f12_r2 : List MO := [
(Qa (Qv 11) (Qd (Qn 5))),
(Qa (Qv 12) (Qe Qt Go.BinOp.neq (Qn 11) (Qo (Qp (Qq (Qr Qu 0))))))]
def f12_c2 : MC := .reg false f12_r2
def f12_r3 : List MO := [
(Qa (Qv 13) (Qd (Qn 5))),
(Qa (Qv 2) (Qd (Qo (Qp A.nil)))),
(Qa (Qv 3) (Qd (Qn 13)))]
def f12_c3 : MC := .reg false f12_r3
def f12_c4 : MC := MC.ret
def f12_c5 : MC := .seq f12_c3 f12_c4
def f12_c6 : MC := MC.skip
def f12_c7 : MC := .cond (Qn 12) f12_c5 f12_c6
def f12_c8 : MC := .seq f12_c2 f12_c7
def f12_r9 : List MO := [
(Qa (Qv 14) (Qd (Qn 4))),
(Qa (Qv 15) (Qh 27 [(Qn 14)])),
(Qa (Qv 2) (Qd (Qn 15))),
(Qa (Qv 3) (Qd (Qo (Qp (Qq (Qr Qu 0))))))]
def f12_c9 : MC := .reg false f12_r9
def f12_c10 : MC := MC.ret
def f12_c11 : MC := .seq f12_c9 f12_c10
def f12_c12 : MC := .seq f12_c8 f12_c11
def f12_c13 : MC := .seq f12_c1 f12_c12
def f12_c14 : MC := .seq f12_c0 f12_c13
noncomputable def f12_code : Code := (Go.Proofs.Tryz.f12.body).getD .skip
theorem f12_body : Go.Proofs.Tryz.f12.body = Qv f12_code := by kernel_rfl
theorem f12_tr : trC Go.Proofs.Tryz.prog [1] f12_code = Qv f12_c14 := by kernel_rfl
theorem f12_rs : rsOf Go.Proofs.Tryz.prog Go.Proofs.Tryz.f12.results.toList = Qv [(RV.t 2), (RV.t 3)] := by kernel_rfl
theorem f12_nt : Go.Proofs.Tryz.f12.ntmps = 16 := by kernel_rfl
theorem f12_ok : callable Go.Proofs.Tryz.prog 12 = true := by kernel_rfl
theorem f12_in {gp : Heap} {args : List V} {res : V} (h : G ⟨Go.Proofs.Tryz.prog, gp, 0, [(RV.t 2), (RV.t 3)], fun r c => r = res ∧ c = [], false⟩ [.code f12_c14, .fin] ⟨args ++ List.replicate (16 - args.length) .un, []⟩) : Does Go.Proofs.Tryz.prog gp 12 args res :=
  does_intro f12_ok Go.Proofs.Tryz.func12 f12_body f12_tr f12_rs (by rw [f12_nt]; exact h)
theorem f12_tri {gp : Heap} {args : List V} {pre : List Ch} {R : V → List Ch → Prop} (h : G ⟨Go.Proofs.Tryz.prog, gp, pre.length, [(RV.t 2), (RV.t 3)], R, false⟩ [.code f12_c14, .fin] ⟨args ++ List.replicate (16 - args.length) .un, pre⟩) : Tri Go.Proofs.Tryz.prog gp 12 args pre R :=
  tri_intro Go.Proofs.Tryz.func12 f12_body f12_tr f12_rs (by rw [f12_nt]; exact h)

/-! sigillary/walk.Anchors -/
def f14_r0 : List MO := [
(Qa (Qv 1) (MOp.ibox (Qn 0))),
(Qa (Qv 2) (Qd (Qo (Qp A.nil)))),
(Qa (Qv 3) (Qd (Qo (Qp (Qq (Qr Qu 0))))))]
def f14_c0 : MC := .reg false f14_r0
def f14_r1 : List MO := [
(Qa (Qv 12) (Qf 2 true (Qn 1))),
(Qa (Qv 13) (Qh 26 [(Qn 12)])),
(Qa (Qv 11) (Qd (Qn 13))),
(Qa (Qv 14) (Qi (Qn 11) 0)),
(Qa (Qv 15) (Qi (Qn 11) 1)),
(Qa (Qv 4) (Qd (Qn 14))),
(Qa (Qv 5) (Qd (Qn 15)))]
def f14_c1 : MC := .reg false f14_r1
def f14_r2 : List MO := [
(Qa (Qv 16) (Qd (Qn 5))),
(Qa (Qv 17) (Qe Qt Go.BinOp.neq (Qn 16) (Qo (Qp (Qq (Qr Qu 0))))))]
def f14_c2 : MC := .reg false f14_r2
def f14_r3 : List MO := [
(Qa (Qv 18) (Qd (Qn 5))),
(Qa (Qv 2) (Qd (Qo (Qp A.nil)))),
(Qa (Qv 3) (Qd (Qn 18)))]
def f14_c3 : MC := .reg false f14_r3
def f14_c4 : MC := MC.ret
def f14_c5 : MC := .seq f14_c3 f14_c4
def f14_c6 : MC := MC.skip
def f14_c7 : MC := .cond (Qn 17) f14_c5 f14_c6
def f14_c8 : MC := .seq f14_c2 f14_c7
def f14_r9 : List MO := [
(Qa (Qv 19) (Qd (Qn 4))),
(Qa (Qv 20) (MOp.mkMv (Go.Fn.func 28) (Qn 19))),
(Qa (Qv 6) (Qd (Qn 20)))]
def f14_c9 : MC := .reg false f14_r9
def f14_r10 : List MO := [
(Qa (Qv 21) MOp.mkM),
(Qa (Qv 7) (Qd (Qn 21)))]
def f14_c10 : MC := .reg false f14_r10
def f14_r11 : List MO := [
(Qa (Qv 8) (Qd (Qo (Qp A.nil))))]
def f14_c11 : MC := .reg false f14_r11
def f14_r12 : List MO := [
(Qa (Qv 22) (Qd (Qn 4))),
(Qa (Qv 23) (Qh 27 [(Qn 22)])),
(Qa (Qv 24) (Qk Qt (Qn 23))),
(Qa (Qv 25) (Qd (Qo (Qp (Qq (Qr Qu 0))))))]
def f14_c12 : MC := .reg false f14_r12
def f14_r13 : List MO := [
(Qa (Qv 26) (Qe Qt Go.BinOp.lss (Qn 25) (Qn 24)))]
def f14_c13 : MC := .reg false f14_r13
def f14_c14 : MC := MC.skip
def f14_c15 : MC := (MC.exit 0)
def f14_c16 : MC := .cond (Qn 26) f14_c14 f14_c15
def f14_r17 : List MO := [
(Qa (Qv 27) (Qd (Qn 25))),
(Qa (Qv 28) (Qj 1 (Qn 23) (Qn 25))),
(Qa (Qv 29) (Qf 1 false (Qn 28))),
(Qa (Qv 9) (Qd (Qn 27))),
(Qa (Qv 10) (Qd (Qn 29)))]
def f14_c17 : MC := .reg false f14_r17
def f14_r18 : List MO := [
(Qa (Qv 30) (Qd (Qn 6))),
(Qa (Qv 31) (Qd (Qn 9))),
(Qa (Qv 32) (Qd (Qn 10))),
(Qa (Qv 33) (MOp.callv (Qn 30) [(Qn 31), (Qn 32)]))]
def f14_c18 : MC := .reg false f14_r18
def f14_r19 : List MO := [
(Qa (Qv 34) (Qd (Qn 7))),
(Qa (Qv 35) (Qd (Qn 9))),
(Qa none (MOp.mupd false [Qt] (Qn 34) (Qn 35) (Qo (Qp (Qq (Qs true))))))]
def f14_c19 : MC := .reg false f14_r19
def f14_r20 : List MO := [
(Qa (Qv 36) (Qd (Qn 8))),
(Qa (Qv 37) (Qd (Qn 7))),
(Qa (Qv 38) (Qk Leaf.b (Qn 37))),
(Qa (Qv 39) (MOp.bslice 1 [(Qr Qu 0)] 1 [(0, (Qn 38))])),
(Qa (Qv 40) (MOp.app 1 8 (Qn 36) (Qn 39))),
(Qa (Qv 8) (Qd (Qn 40)))]
def f14_c20 : MC := .reg false f14_r20
def f14_c21 : MC := (MC.exit 1)
def f14_c22 : MC := .seq f14_c20 f14_c21
def f14_c23 : MC := .seq f14_c19 f14_c22
def f14_c24 : MC := MC.skip
def f14_c25 : MC := .cond (Qn 33) f14_c23 f14_c24
def f14_c26 : MC := .seq f14_c18 f14_c25
def f14_r27 : List MO := [
(Qa (Qv 41) (Qd (Qn 8))),
(Qa (Qv 42) (MOp.bslice 1 [(Qr Qu 0)] 1 [(0, (Qo (Qp (Qq (Qr Qu 0)))))])),
(Qa (Qv 43) (MOp.app 1 8 (Qn 41) (Qn 42))),
(Qa (Qv 8) (Qd (Qn 43)))]
def f14_c27 : MC := .reg false f14_r27
def f14_c28 : MC := .seq f14_c26 f14_c27
def f14_c29 : MC := .seq f14_c17 f14_c28
def f14_c30 : MC := .blk 1 f14_c29
def f14_r31 : List MO := [
(Qa (Qv 44) (Qe Qt Go.BinOp.add (Qn 25) (Qo (Qp (Qq (Qr Qu 1)))))),
(Qa (Qv 25) (Qd (Qn 44)))]
def f14_c31 : MC := .reg false f14_r31
def f14_c32 : MC := .seq f14_c30 f14_c31
def f14_c33 : MC := .seq f14_c16 f14_c32
def f14_c34 : MC := .seq f14_c13 f14_c33
def f14_c35 : MC := .loop f14_c34
def f14_c36 : MC := .blk 0 f14_c35
def f14_c37 : MC := .seq f14_c12 f14_c36
def f14_r38 : List MO := [
(Qa (Qv 45) (Qd (Qn 8))),
(Qa (Qv 2) (Qd (Qn 45))),
(Qa (Qv 3) (Qd (Qo (Qp (Qq (Qr Qu 0))))))]
def f14_c38 : MC := .reg false f14_r38
def f14_c39 : MC := MC.ret
def f14_c40 : MC := .seq f14_c38 f14_c39
def f14_c41 : MC := .seq f14_c37 f14_c40
def f14_c42 : MC := .seq f14_c11 f14_c41
def f14_c43 : MC := .seq f14_c10 f14_c42
def f14_c44 : MC := .seq f14_c9 f14_c43
def f14_c45 : MC := .seq f14_c8 f14_c44
def f14_c46 : MC := .seq f14_c1 f14_c45
def f14_c47 : MC := .seq f14_c0 f14_c46
noncomputable def f14_code : Code := (Go.Proofs.Tryz.f14.body).getD .skip
theorem f14_body : Go.Proofs.Tryz.f14.body = Qv f14_code := by kernel_rfl
theorem f14_tr : trC Go.Proofs.Tryz.prog [1] f14_code = Qv f14_c47 := by kernel_rfl
theorem f14_rs : rsOf Go.Proofs.Tryz.prog Go.Proofs.Tryz.f14.results.toList = Qv [(RV.t 2), (RV.t 3)] := by kernel_rfl
theorem f14_nt : Go.Proofs.Tryz.f14.ntmps = 46 := by kernel_rfl
theorem f14_ok : callable Go.Proofs.Tryz.prog 14 = true := by kernel_rfl
theorem f14_in {gp : Heap} {args : List V} {res : V} (h : G ⟨Go.Proofs.Tryz.prog, gp, 0, [(RV.t 2), (RV.t 3)], fun r c => r = res ∧ c = [], false⟩ [.code f14_c47, .fin] ⟨args ++ List.replicate (46 - args.length) .un, []⟩) : Does Go.Proofs.Tryz.prog gp 14 args res :=
  does_intro f14_ok Go.Proofs.Tryz.func14 f14_body f14_tr f14_rs (by rw [f14_nt]; exact h)
theorem f14_tri {gp : Heap} {args : List V} {pre : List Ch} {R : V → List Ch → Prop} (h : G ⟨Go.Proofs.Tryz.prog, gp, pre.length, [(RV.t 2), (RV.t 3)], R, false⟩ [.code f14_c47, .fin] ⟨args ++ List.replicate (46 - args.length) .un, pre⟩) : Tri Go.Proofs.Tryz.prog gp 14 args pre R :=
  tri_intro Go.Proofs.Tryz.func14 f14_body f14_tr f14_rs (by rw [f14_nt]; exact h)

/-! sigillary/walk.Depths -/
def f15_r0 : List MO := [
(Qa (Qv 1) (MOp.ibox (Qn 0))),
(Qa (Qv 2) (Qd (Qo (Qp A.nil)))),
(Qa (Qv 3) (Qd (Qo (Qp (Qq (Qr Qu 0))))))]
def f15_c0 : MC := .reg false f15_r0
def f15_r1 : List MO := [
(Qa (Qv 8) (Qf 2 true (Qn 1))),
(Qa (Qv 9) (Qh 26 [(Qn 8)])),
(Qa (Qv 7) (Qd (Qn 9))),
(Qa (Qv 10) (Qi (Qn 7) 0)),
(Qa (Qv 11) (Qi (Qn 7) 1)),
(Qa (Qv 4) (MOp.alloc [D.nilP])),
(Qa none (Ql 1 (Qn 4) (Qn 10))),
(Qa (Qv 5) (Qd (Qn 11)))]
def f15_c1 : MC := .reg false f15_r1
def f15_r2 : List MO := [
(Qa (Qv 12) (Qd (Qn 5))),
(Qa (Qv 13) (Qe Qt Go.BinOp.neq (Qn 12) (Qo (Qp (Qq (Qr Qu 0))))))]
def f15_c2 : MC := .reg false f15_r2
def f15_r3 : List MO := [
(Qa (Qv 14) (Qd (Qn 5))),
(Qa (Qv 2) (Qd (Qo (Qp A.nil)))),
(Qa (Qv 3) (Qd (Qn 14)))]
def f15_c3 : MC := .reg false f15_r3
def f15_c4 : MC := MC.ret
def f15_c5 : MC := .seq f15_c3 f15_c4
def f15_c6 : MC := MC.skip
def f15_c7 : MC := .cond (Qn 13) f15_c5 f15_c6
def f15_c8 : MC := .seq f15_c2 f15_c7
def f15_r9 : List MO := [
(Qa (Qv 6) (MOp.alloc [D.nilF]))]
def f15_c9 : MC := .reg false f15_r9
def f15_r10 : List MO := [
(Qa (Qv 15) (MOp.mkF (Go.Fn.func 29) [(Qn 4), (Qn 6)])),
(Qa none (Ql 1 (Qn 6) (Qn 15)))]
def f15_c10 : MC := .reg false f15_r10
def f15_r11 : List MO := [
(Qa (Qv 16) (Qf 1 false (Qn 6))),
(Qa (Qv 17) (Qf 1 false (Qn 4))),
(Qa (Qv 18) (MOp.nck (Qn 17))),
(Qa (Qv 19) (Qg 0 (Qn 18))),
(Qa (Qv 20) (Qg 0 (Qn 19))),
(Qa (Qv 21) (Qf 1 false (Qn 20))),
(Qc (Qv 22) (MOp.callv (Qn 16) [(Qn 21), (Qo (Qp (Qq (Qr Qu 1))))]))]
def f15_c11 : MC := .reg true f15_r11
def f15_r12 : List MO := [
(Qa (Qv 23) (Qf 1 false (Qn 4))),
(Qa (Qv 24) (MOp.nck (Qn 23))),
(Qa (Qv 25) (Qg 2 (Qn 24))),
(Qa (Qv 26) (Qf 1 false (Qn 25))),
(Qa (Qv 2) (Qd (Qn 26))),
(Qa (Qv 3) (Qd (Qo (Qp (Qq (Qr Qu 0))))))]
def f15_c12 : MC := .reg false f15_r12
def f15_c13 : MC := MC.ret
def f15_c14 : MC := .seq f15_c12 f15_c13
def f15_c15 : MC := .seq f15_c11 f15_c14
def f15_c16 : MC := .seq f15_c10 f15_c15
def f15_c17 : MC := .seq f15_c9 f15_c16
def f15_c18 : MC := .seq f15_c8 f15_c17
def f15_c19 : MC := .seq f15_c1 f15_c18
def f15_c20 : MC := .seq f15_c0 f15_c19
noncomputable def f15_code : Code := (Go.Proofs.Tryz.f15.body).getD .skip
theorem f15_body : Go.Proofs.Tryz.f15.body = Qv f15_code := by kernel_rfl
theorem f15_tr : trC Go.Proofs.Tryz.prog [1] f15_code = Qv f15_c20 := by kernel_rfl
theorem f15_rs : rsOf Go.Proofs.Tryz.prog Go.Proofs.Tryz.f15.results.toList = Qv [(RV.t 2), (RV.t 3)] := by kernel_rfl
theorem f15_nt : Go.Proofs.Tryz.f15.ntmps = 27 := by kernel_rfl
theorem f15_ok : callable Go.Proofs.Tryz.prog 15 = true := by kernel_rfl
theorem f15_in {gp : Heap} {args : List V} {res : V} (h : G ⟨Go.Proofs.Tryz.prog, gp, 0, [(RV.t 2), (RV.t 3)], fun r c => r = res ∧ c = [], false⟩ [.code f15_c20, .fin] ⟨args ++ List.replicate (27 - args.length) .un, []⟩) : Does Go.Proofs.Tryz.prog gp 15 args res :=
  does_intro f15_ok Go.Proofs.Tryz.func15 f15_body f15_tr f15_rs (by rw [f15_nt]; exact h)
theorem f15_tri {gp : Heap} {args : List V} {pre : List Ch} {R : V → List Ch → Prop} (h : G ⟨Go.Proofs.Tryz.prog, gp, pre.length, [(RV.t 2), (RV.t 3)], R, false⟩ [.code f15_c20, .fin] ⟨args ++ List.replicate (27 - args.length) .un, pre⟩) : Tri Go.Proofs.Tryz.prog gp 15 args pre R :=
  tri_intro Go.Proofs.Tryz.func15 f15_body f15_tr f15_rs (by rw [f15_nt]; exact h)

/-! sigillary/walk.of -/
def f26_r0 : List MO := [
(Qa (Qv 1) (MOp.ibox (Qn 0))),
(Qa (Qv 2) (Qd (Qo (Qp (Qq D.nilP))))),
(Qa (Qv 3) (Qd (Qo (Qp (Qq (Qr Qu 0))))))]
def f26_c0 : MC := .reg false f26_r0
def f26_r1 : List MO := [
(Qa (Qv 4) (Qf 2 true (Qn 1))),
(Qa (Qv 5) (Qh 13 [(Qn 4)])),
(Qa (Qv 6) (MOp.not (Qn 5)))]
def f26_c1 : MC := .reg false f26_r1
def f26_r2 : List MO := [
(Qa (Qv 2) (Qd (Qo (Qp (Qq D.nilP))))),
(Qa (Qv 3) (Qd (Qo (Qp (Qq (Qr Qu 72))))))]
def f26_c2 : MC := .reg false f26_r2
def f26_c3 : MC := MC.ret
def f26_c4 : MC := .seq f26_c2 f26_c3
def f26_c5 : MC := MC.skip
def f26_c6 : MC := .cond (Qn 6) f26_c4 f26_c5
def f26_c7 : MC := .seq f26_c1 f26_c6
def f26_r8 : List MO := [
(Qa (Qv 7) (Qf 2 true (Qn 1))),
(Qa (Qv 8) (Qg 1 (Qn 1))),
(Qa (Qv 9) (Qf 1 false (Qn 8))),
(Qa (Qv 10) (Qk Qt (Qn 9))),
(Qa (Qv 11) (MOp.mkS 1 8 [(Qr Qu 0)] (Qn 10))),
(Qa (Qv 12) (MOp.build [(Qr Qu 0), (D.sl []), (D.sl [])] [(0, (2, (Qn 7))), (2, (1, (Qn 11)))])),
(Qa (Qv 13) (MOp.box (Qn 12))),
(Qa (Qv 2) (Qd (Qn 13))),
(Qa (Qv 3) (Qd (Qo (Qp (Qq (Qr Qu 0))))))]
def f26_c8 : MC := .reg true f26_r8
def f26_c9 : MC := MC.ret
def f26_c10 : MC := .seq f26_c8 f26_c9
def f26_c11 : MC := .seq f26_c7 f26_c10
def f26_c12 : MC := .seq f26_c0 f26_c11
noncomputable def f26_code : Code := (Go.Proofs.Tryz.f26.body).getD .skip
theorem f26_body : Go.Proofs.Tryz.f26.body = Qv f26_code := by kernel_rfl
theorem f26_tr : trC Go.Proofs.Tryz.prog [1] f26_code = Qv f26_c12 := by kernel_rfl
theorem f26_rs : rsOf Go.Proofs.Tryz.prog Go.Proofs.Tryz.f26.results.toList = Qv [(RV.t 2), (RV.t 3)] := by kernel_rfl
theorem f26_nt : Go.Proofs.Tryz.f26.ntmps = 14 := by kernel_rfl
theorem f26_ok : callable Go.Proofs.Tryz.prog 26 = true := by kernel_rfl
theorem f26_in {gp : Heap} {args : List V} {res : V} (h : G ⟨Go.Proofs.Tryz.prog, gp, 0, [(RV.t 2), (RV.t 3)], fun r c => r = res ∧ c = [], false⟩ [.code f26_c12, .fin] ⟨args ++ List.replicate (14 - args.length) .un, []⟩) : Does Go.Proofs.Tryz.prog gp 26 args res :=
  does_intro f26_ok Go.Proofs.Tryz.func26 f26_body f26_tr f26_rs (by rw [f26_nt]; exact h)
theorem f26_tri {gp : Heap} {args : List V} {pre : List Ch} {R : V → List Ch → Prop} (h : G ⟨Go.Proofs.Tryz.prog, gp, pre.length, [(RV.t 2), (RV.t 3)], R, false⟩ [.code f26_c12, .fin] ⟨args ++ List.replicate (14 - args.length) .un, pre⟩) : Tri Go.Proofs.Tryz.prog gp 26 args pre R :=
  tri_intro Go.Proofs.Tryz.func26 f26_body f26_tr f26_rs (by rw [f26_nt]; exact h)

/-! (*sigillary/walk.counter).uses -/
def f27_r0 : List MO := [
(Qa (Qv 1) (MOp.box (Qn 0))),
(Qa (Qv 2) (Qd (Qo (Qp A.nil))))]
def f27_c0 : MC := .reg false f27_r0
def f27_r1 : List MO := [
(Qa (Qv 4) (Qf 1 false (Qn 1))),
(Qa (Qv 5) (MOp.nck (Qn 4))),
(Qa (Qv 6) (Qg 2 (Qn 5))),
(Qa (Qv 7) (Qf 1 false (Qn 6))),
(Qa (Qv 8) (Qj 1 (Qn 7) (Qo (Qp (Qq (Qr Qu 0)))))),
(Qa (Qv 9) (Qf 1 false (Qn 8))),
(Qa (Qv 10) (Qe Qt Go.BinOp.add (Qn 9) (Qo (Qp (Qq (Qr Qu 1)))))),
(Qa (Qv 11) (Qj 1 (Qn 7) (Qo (Qp (Qq (Qr Qu 0)))))),
(Qa none (Ql 1 (Qn 11) (Qn 10)))]
def f27_c1 : MC := .reg false f27_r1
def f27_r2 : List MO := [
(Qa (Qv 12) (Qf 1 false (Qn 1))),
(Qa (Qv 13) (Qh 46 [(Qn 12)]))]
def f27_c2 : MC := .reg false f27_r2
def f27_r3 : List MO := [
(Qa (Qv 3) (MOp.alloc [(Qr Qu 0), (Qr Qu 0)])),
(Qa none (Ql 2 (Qn 3) (Qn 14)))]
def f27_c3 : MC := .reg false f27_r3
def f27_r4 : List MO := [
(Qa (Qv 15) (Qf 1 false (Qn 1))),
(Qa (Qv 16) (MOp.nck (Qn 15))),
(Qa (Qv 17) (Qg 2 (Qn 16))),
(Qa (Qv 18) (Qf 1 false (Qn 17))),
(Qa (Qv 19) (Qg 1 (Qn 3))),
(Qa (Qv 20) (Qf 1 false (Qn 19))),
(Qa (Qv 21) (Qj 1 (Qn 18) (Qn 20))),
(Qa (Qv 22) (Qf 1 false (Qn 21))),
(Qa (Qv 23) (Qe Qt Go.BinOp.add (Qn 22) (Qo (Qp (Qq (Qr Qu 1)))))),
(Qa (Qv 24) (Qj 1 (Qn 18) (Qn 20))),
(Qa none (Ql 1 (Qn 24) (Qn 23)))]
def f27_c4 : MC := .reg true f27_r4
def f27_c5 : MC := .blk 1 f27_c4
def f27_c6 : MC := .rf (Qn 13) [14] f27_c3 f27_c5
def f27_c7 : MC := .blk 0 f27_c6
def f27_c8 : MC := .seq f27_c2 f27_c7
def f27_r9 : List MO := [
(Qa (Qv 25) (Qf 1 false (Qn 1))),
(Qa (Qv 26) (MOp.nck (Qn 25))),
(Qa (Qv 27) (Qg 2 (Qn 26))),
(Qa (Qv 28) (Qf 1 false (Qn 27))),
(Qa (Qv 2) (Qd (Qn 28)))]
def f27_c9 : MC := .reg false f27_r9
def f27_c10 : MC := MC.ret
def f27_c11 : MC := .seq f27_c9 f27_c10
def f27_c12 : MC := .seq f27_c8 f27_c11
def f27_c13 : MC := .seq f27_c1 f27_c12
def f27_c14 : MC := .seq f27_c0 f27_c13
noncomputable def f27_code : Code := (Go.Proofs.Tryz.f27.body).getD .skip
theorem f27_body : Go.Proofs.Tryz.f27.body = Qv f27_code := by kernel_rfl
theorem f27_tr : trC Go.Proofs.Tryz.prog [] f27_code = Qv f27_c14 := by kernel_rfl
theorem f27_rs : rsOf Go.Proofs.Tryz.prog Go.Proofs.Tryz.f27.results.toList = Qv [(RV.t 2)] := by kernel_rfl
theorem f27_nt : Go.Proofs.Tryz.f27.ntmps = 29 := by kernel_rfl
theorem f27_ok : callable Go.Proofs.Tryz.prog 27 = true := by kernel_rfl
theorem f27_in {gp : Heap} {args : List V} {res : V} (h : G ⟨Go.Proofs.Tryz.prog, gp, 0, [(RV.t 2)], fun r c => r = res ∧ c = [], false⟩ [.code f27_c14, .fin] ⟨args ++ List.replicate (29 - args.length) .un, []⟩) : Does Go.Proofs.Tryz.prog gp 27 args res :=
  does_intro f27_ok Go.Proofs.Tryz.func27 f27_body f27_tr f27_rs (by rw [f27_nt]; exact h)
theorem f27_tri {gp : Heap} {args : List V} {pre : List Ch} {R : V → List Ch → Prop} (h : G ⟨Go.Proofs.Tryz.prog, gp, pre.length, [(RV.t 2)], R, false⟩ [.code f27_c14, .fin] ⟨args ++ List.replicate (29 - args.length) .un, pre⟩) : Tri Go.Proofs.Tryz.prog gp 27 args pre R :=
  tri_intro Go.Proofs.Tryz.func27 f27_body f27_tr f27_rs (by rw [f27_nt]; exact h)

/-! (*sigillary/walk.counter).isAnchored -/
def f28_r0 : List MO := [
(Qa (Qv 6) (Qd (Qo (Qp (Qq (Qs false))))))]
def f28_c0 : MC := .reg false f28_r0
def f28_r1 : List MO := [
(Qa (Qv 8) (Qd (Qn 0))),
(Qa (Qv 9) (MOp.nck (Qn 8))),
(Qa (Qv 10) (Qg 0 (Qn 9))),
(Qa (Qv 11) (Qg 1 (Qn 10))),
(Qa (Qv 12) (Qf 1 false (Qn 11))),
(Qa (Qv 13) (Qd (Qn 1))),
(Qa (Qv 14) (Qj 6 (Qn 12) (Qn 13))),
(Qa (Qv 15) (Qf 6 true (Qn 14))),
(Qa (Qv 7) (MOp.alloc [(Qr Qu 0), (Qr Qu 0), (Qr Qu 0), (D.str (ByteArray.mk #[])), (D.sl []), (D.sl [])])),
(Qa none (Ql 6 (Qn 7) (Qn 15)))]
def f28_c1 : MC := .reg false f28_r1
def f28_r2 : List MO := [
(Qa (Qv 17) (Qh 47 [])),
(Qa (Qv 18) (Qg 0 (Qn 7))),
(Qa (Qv 19) (Qf 1 false (Qn 18))),
(Qa (Qv 20) (MOp.idxA 3 (Qn 17) (Qn 19))),
(Qa (Qv 21) (MOp.not (Qn 20))),
(Qa (Qv 16) (Qd (Qn 21)))]
def f28_c2 : MC := .reg true f28_r2
def f28_c3 : MC := (MC.exit 1)
def f28_c4 : MC := MC.skip
def f28_c5 : MC := .cond (Qn 16) f28_c3 f28_c4
def f28_c6 : MC := .seq f28_c2 f28_c5
def f28_r7 : List MO := [
(Qa (Qv 23) (Qg 5 (Qn 7))),
(Qa (Qv 24) (Qf 1 false (Qn 23))),
(Qa (Qv 25) (Qk Qt (Qn 24))),
(Qa (Qv 26) (Qe Qt Go.BinOp.eql (Qn 25) (Qo (Qp (Qq (Qr Qu 0)))))),
(Qa (Qv 22) (Qd (Qn 26)))]
def f28_c7 : MC := .reg false f28_r7
def f28_c8 : MC := (MC.exit 2)
def f28_c9 : MC := MC.skip
def f28_c10 : MC := .cond (Qn 22) f28_c8 f28_c9
def f28_c11 : MC := .seq f28_c7 f28_c10
def f28_c12 : MC := .seq f28_c6 f28_c11
def f28_c13 : MC := (MC.exit 0)
def f28_c14 : MC := .seq f28_c12 f28_c13
def f28_c15 : MC := .blk 1 f28_c14
def f28_c16 : MC := .blk 2 f28_c15
def f28_r17 : List MO := [
(Qa (Qv 6) (Qd (Qo (Qp (Qq (Qs false))))))]
def f28_c17 : MC := .reg false f28_r17
def f28_c18 : MC := MC.ret
def f28_c19 : MC := .seq f28_c17 f28_c18
def f28_c20 : MC := (MC.exit 0)
def f28_c21 : MC := .seq f28_c19 f28_c20
def f28_c22 : MC := .seq f28_c16 f28_c21
def f28_c23 : MC := .blk 0 f28_c22
def f28_c24 : MC := .seq f28_c1 f28_c23
def f28_r25 : List MO := [
(Qa (Qv 27) (Qd (Qn 2))),
(Qa (Qv 28) (Qe Qt Go.BinOp.gtr (Qn 27) (Qo (Qp (Qq (Qr Qu 1)))))),
(Qa (Qv 6) (Qd (Qn 28)))]
def f28_c25 : MC := .reg false f28_r25
def f28_c26 : MC := MC.ret
def f28_c27 : MC := .seq f28_c25 f28_c26
def f28_c28 : MC := .seq f28_c24 f28_c27
def f28_c29 : MC := .seq f28_c0 f28_c28
noncomputable def f28_code : Code := (Go.Proofs.Tryz.f28.body).getD .skip
theorem f28_body : Go.Proofs.Tryz.f28.body = Qv f28_code := by kernel_rfl
theorem f28_tr : trC Go.Proofs.Tryz.prog [] f28_code = Qv f28_c29 := by kernel_rfl
theorem f28_rs : rsOf Go.Proofs.Tryz.prog Go.Proofs.Tryz.f28.results.toList = Qv [(RV.t 6)] := by kernel_rfl
theorem f28_nt : Go.Proofs.Tryz.f28.ntmps = 29 := by kernel_rfl
theorem f28_ok : callable Go.Proofs.Tryz.prog 28 = true := by kernel_rfl
theorem f28_in {gp : Heap} {args : List V} {res : V} (h : G ⟨Go.Proofs.Tryz.prog, gp, 0, [(RV.t 6)], fun r c => r = res ∧ c = [], false⟩ [.code f28_c29, .fin] ⟨args ++ List.replicate (29 - args.length) .un, []⟩) : Does Go.Proofs.Tryz.prog gp 28 args res :=
  does_intro f28_ok Go.Proofs.Tryz.func28 f28_body f28_tr f28_rs (by rw [f28_nt]; exact h)
theorem f28_tri {gp : Heap} {args : List V} {pre : List Ch} {R : V → List Ch → Prop} (h : G ⟨Go.Proofs.Tryz.prog, gp, pre.length, [(RV.t 6)], R, false⟩ [.code f28_c29, .fin] ⟨args ++ List.replicate (29 - args.length) .un, pre⟩) : Tri Go.Proofs.Tryz.prog gp 28 args pre R :=
  tri_intro Go.Proofs.Tryz.func28 f28_body f28_tr f28_rs (by rw [f28_nt]; exact h)

/-! sigillary/walk.Depths$1 -/
def f29_r0 : List MO := [
(Qa (Qv 8) (Qf 1 false (Qn 2))),
(Qa (Qv 9) (MOp.nck (Qn 8))),
(Qa (Qv 10) (Qg 2 (Qn 9))),
(Qa (Qv 11) (Qf 1 false (Qn 10))),
(Qa (Qv 12) (Qd (Qn 0))),
(Qa (Qv 13) (Qj 1 (Qn 11) (Qn 12))),
(Qa (Qv 14) (Qf 1 false (Qn 13))),
(Qa (Qv 15) (Qe Qt Go.BinOp.gtr (Qn 14) (Qo (Qp (Qq (Qr Qu 0))))))]
def f29_c0 : MC := .reg false f29_r0
def f29_c1 : MC := MC.ret
def f29_c2 : MC := MC.skip
def f29_c3 : MC := .cond (Qn 15) f29_c1 f29_c2
def f29_c4 : MC := .seq f29_c0 f29_c3
def f29_r5 : List MO := [
(Qa (Qv 16) (Qf 1 false (Qn 2))),
(Qa (Qv 17) (MOp.nck (Qn 16))),
(Qa (Qv 18) (Qg 2 (Qn 17))),
(Qa (Qv 19) (Qf 1 false (Qn 18))),
(Qa (Qv 20) (Qd (Qn 0))),
(Qa (Qv 21) (Qd (Qn 1))),
(Qa (Qv 22) (Qj 1 (Qn 19) (Qn 20))),
(Qa none (Ql 1 (Qn 22) (Qn 21)))]
def f29_c5 : MC := .reg false f29_r5
def f29_r6 : List MO := [
(Qa (Qv 23) (Qf 1 false (Qn 2))),
(Qa (Qv 24) (MOp.nck (Qn 23))),
(Qa (Qv 25) (Qg 0 (Qn 24))),
(Qa (Qv 26) (Qg 1 (Qn 25))),
(Qa (Qv 27) (Qf 1 false (Qn 26))),
(Qa (Qv 28) (Qd (Qn 0))),
(Qa (Qv 29) (Qj 6 (Qn 27) (Qn 28))),
(Qa (Qv 30) (Qg 5 (Qn 29))),
(Qa (Qv 31) (Qf 1 false (Qn 30))),
(Qa (Qv 32) (Qk Qt (Qn 31))),
(Qa (Qv 33) (Qd (Qo (Qp (Qq (Qr Qu 0))))))]
def f29_c6 : MC := .reg false f29_r6
def f29_r7 : List MO := [
(Qa (Qv 34) (Qe Qt Go.BinOp.lss (Qn 33) (Qn 32)))]
def f29_c7 : MC := .reg false f29_r7
def f29_c8 : MC := MC.skip
def f29_c9 : MC := (MC.exit 0)
def f29_c10 : MC := .cond (Qn 34) f29_c8 f29_c9
def f29_r11 : List MO := [
(Qa (Qv 35) (Qj 1 (Qn 31) (Qn 33))),
(Qa (Qv 36) (Qf 1 false (Qn 35))),
(Qa (Qv 7) (Qd (Qn 36)))]
def f29_c11 : MC := .reg false f29_r11
def f29_r12 : List MO := [
(Qa (Qv 37) (Qf 1 false (Qn 3))),
(Qa (Qv 38) (Qd (Qn 7))),
(Qa (Qv 39) (Qd (Qn 1))),
(Qa (Qv 40) (Qe Qt Go.BinOp.add (Qn 39) (Qo (Qp (Qq (Qr Qu 1)))))),
(Qa (Qv 41) (MOp.callv (Qn 37) [(Qn 38), (Qn 40)]))]
def f29_c12 : MC := .reg false f29_r12
def f29_c13 : MC := .seq f29_c11 f29_c12
def f29_c14 : MC := .blk 1 f29_c13
def f29_r15 : List MO := [
(Qa (Qv 42) (Qe Qt Go.BinOp.add (Qn 33) (Qo (Qp (Qq (Qr Qu 1)))))),
(Qa (Qv 33) (Qd (Qn 42)))]
def f29_c15 : MC := .reg false f29_r15
def f29_c16 : MC := .seq f29_c14 f29_c15
def f29_c17 : MC := .seq f29_c10 f29_c16
def f29_c18 : MC := .seq f29_c7 f29_c17
def f29_c19 : MC := .loop f29_c18
def f29_c20 : MC := .blk 0 f29_c19
def f29_c21 : MC := .seq f29_c6 f29_c20
def f29_c22 : MC := .seq f29_c5 f29_c21
def f29_c23 : MC := .seq f29_c4 f29_c22
noncomputable def f29_code : Code := (Go.Proofs.Tryz.f29.body).getD .skip
theorem f29_body : Go.Proofs.Tryz.f29.body = Qv f29_code := by kernel_rfl
theorem f29_tr : trC Go.Proofs.Tryz.prog [] f29_code = Qv f29_c23 := by kernel_rfl
theorem f29_rs : rsOf Go.Proofs.Tryz.prog Go.Proofs.Tryz.f29.results.toList = Qv [] := by kernel_rfl
theorem f29_nt : Go.Proofs.Tryz.f29.ntmps = 43 := by kernel_rfl
theorem f29_ok : callable Go.Proofs.Tryz.prog 29 = true := by kernel_rfl
theorem f29_in {gp : Heap} {args : List V} {res : V} (h : G ⟨Go.Proofs.Tryz.prog, gp, 0, [], fun r c => r = res ∧ c = [], false⟩ [.code f29_c23, .fin] ⟨args ++ List.replicate (43 - args.length) .un, []⟩) : Does Go.Proofs.Tryz.prog gp 29 args res :=
  does_intro f29_ok Go.Proofs.Tryz.func29 f29_body f29_tr f29_rs (by rw [f29_nt]; exact h)
theorem f29_tri {gp : Heap} {args : List V} {pre : List Ch} {R : V → List Ch → Prop} (h : G ⟨Go.Proofs.Tryz.prog, gp, pre.length, [], R, false⟩ [.code f29_c23, .fin] ⟨args ++ List.replicate (43 - args.length) .un, pre⟩) : Tri Go.Proofs.Tryz.prog gp 29 args pre R :=
  tri_intro Go.Proofs.Tryz.func29 f29_body f29_tr f29_rs (by rw [f29_nt]; exact h)

/-! (*sigillary/walk.counter).places -/
def f46_r0 : List MO := [
(Qa (Qv 1) (MOp.box (Qn 0))),
(Qa (Qv 2) (Qd (Qo (Qp (Qq D.nilF)))))]
def f46_c0 : MC := .reg false f46_r0
def f46_r1 : List MO := [
(Qa (Qv 3) (MOp.mkF (Go.Fn.func 59) [(Qn 1)])),
(Qa (Qv 2) (Qd (Qn 3)))]
def f46_c1 : MC := .reg false f46_r1
def f46_c2 : MC := MC.ret
def f46_c3 : MC := .seq f46_c1 f46_c2
def f46_c4 : MC := .seq f46_c0 f46_c3
noncomputable def f46_code : Code := (Go.Proofs.Tryz.f46.body).getD .skip
theorem f46_body : Go.Proofs.Tryz.f46.body = Qv f46_code := by kernel_rfl
theorem f46_tr : trC Go.Proofs.Tryz.prog [] f46_code = Qv f46_c4 := by kernel_rfl
theorem f46_rs : rsOf Go.Proofs.Tryz.prog Go.Proofs.Tryz.f46.results.toList = Qv [(RV.t 2)] := by kernel_rfl
theorem f46_nt : Go.Proofs.Tryz.f46.ntmps = 4 := by kernel_rfl
theorem f46_ok : callable Go.Proofs.Tryz.prog 46 = true := by kernel_rfl
theorem f46_in {gp : Heap} {args : List V} {res : V} (h : G ⟨Go.Proofs.Tryz.prog, gp, 0, [(RV.t 2)], fun r c => r = res ∧ c = [], false⟩ [.code f46_c4, .fin] ⟨args ++ List.replicate (4 - args.length) .un, []⟩) : Does Go.Proofs.Tryz.prog gp 46 args res :=
  does_intro f46_ok Go.Proofs.Tryz.func46 f46_body f46_tr f46_rs (by rw [f46_nt]; exact h)
theorem f46_tri {gp : Heap} {args : List V} {pre : List Ch} {R : V → List Ch → Prop} (h : G ⟨Go.Proofs.Tryz.prog, gp, pre.length, [(RV.t 2)], R, false⟩ [.code f46_c4, .fin] ⟨args ++ List.replicate (4 - args.length) .un, pre⟩) : Tri Go.Proofs.Tryz.prog gp 46 args pre R :=
  tri_intro Go.Proofs.Tryz.func46 f46_body f46_tr f46_rs (by rw [f46_nt]; exact h)

/-! sigillary/walk.mayStand -/
def f47_r0 : List MO := [
(Qa (Qv 0) (MOp.alloc [(Qs false), (Qs false), (Qs false)]))]
def f47_c0 : MC := .reg false f47_r0
def f47_r1 : List MO := [
(Qa (Qv 1) (MOp.build [(Qs false), (Qs false), (Qs false)] [(1, (1, (Qo (Qp (Qq (Qs true)))))), (2, (1, (Qo (Qp (Qq (Qs true))))))])),
(Qa none (Ql 3 (Qn 0) (Qn 1)))]
def f47_c1 : MC := .reg false f47_r1
def f47_c2 : MC := MC.ret
def f47_c3 : MC := .seq f47_c1 f47_c2
def f47_c4 : MC := .seq f47_c0 f47_c3
noncomputable def f47_code : Code := (Go.Proofs.Tryz.f47.body).getD .skip
theorem f47_body : Go.Proofs.Tryz.f47.body = Qv f47_code := by kernel_rfl
theorem f47_tr : trC Go.Proofs.Tryz.prog [] f47_code = Qv f47_c4 := by kernel_rfl
theorem f47_rs : rsOf Go.Proofs.Tryz.prog Go.Proofs.Tryz.f47.results.toList = Qv [(RV.cell 0 3 true)] := by kernel_rfl
theorem f47_nt : Go.Proofs.Tryz.f47.ntmps = 2 := by kernel_rfl
theorem f47_ok : callable Go.Proofs.Tryz.prog 47 = true := by kernel_rfl
theorem f47_in {gp : Heap} {args : List V} {res : V} (h : G ⟨Go.Proofs.Tryz.prog, gp, 0, [(RV.cell 0 3 true)], fun r c => r = res ∧ c = [], false⟩ [.code f47_c4, .fin] ⟨args ++ List.replicate (2 - args.length) .un, []⟩) : Does Go.Proofs.Tryz.prog gp 47 args res :=
  does_intro f47_ok Go.Proofs.Tryz.func47 f47_body f47_tr f47_rs (by rw [f47_nt]; exact h)
theorem f47_tri {gp : Heap} {args : List V} {pre : List Ch} {R : V → List Ch → Prop} (h : G ⟨Go.Proofs.Tryz.prog, gp, pre.length, [(RV.cell 0 3 true)], R, false⟩ [.code f47_c4, .fin] ⟨args ++ List.replicate (2 - args.length) .un, pre⟩) : Tri Go.Proofs.Tryz.prog gp 47 args pre R :=
  tri_intro Go.Proofs.Tryz.func47 f47_body f47_tr f47_rs (by rw [f47_nt]; exact h)

/-! (*sigillary/walk.counter).places$1 -/
def f59_c0 : MC := MC.skip
def f59_r1 : List MO := [
(Qa (Qv 7) (Qf 1 false (Qn 1))),
(Qa (Qv 8) (MOp.nck (Qn 7))),
(Qa (Qv 9) (Qg 0 (Qn 8))),
(Qa (Qv 10) (Qg 1 (Qn 9))),
(Qa (Qv 11) (Qf 1 false (Qn 10))),
(Qa (Qv 12) (Qk Qt (Qn 11))),
(Qa (Qv 13) (Qd (Qo (Qp (Qq (Qr Qu 0))))))]
def f59_c1 : MC := .reg false f59_r1
def f59_r2 : List MO := [
(Qa (Qv 14) (Qe Qt Go.BinOp.lss (Qn 13) (Qn 12)))]
def f59_c2 : MC := .reg false f59_r2
def f59_c3 : MC := MC.skip
def f59_c4 : MC := (MC.exit 0)
def f59_c5 : MC := .cond (Qn 14) f59_c3 f59_c4
def f59_r6 : List MO := [
(Qa (Qv 15) (Qd (Qn 13))),
(Qa (Qv 16) (Qj 6 (Qn 11) (Qn 13))),
(Qa (Qv 17) (Qf 6 true (Qn 16))),
(Qa (Qv 4) (MOp.alloc [(Qr Qu 0), (Qr Qu 0), (Qr Qu 0), (D.str (ByteArray.mk #[])), (D.sl []), (D.sl [])])),
(Qa (Qv 3) (Qd (Qn 15))),
(Qa none (Ql 6 (Qn 4) (Qn 17)))]
def f59_c6 : MC := .reg false f59_r6
def f59_r7 : List MO := [
(Qa (Qv 18) (Qg 5 (Qn 4))),
(Qa (Qv 19) (Qf 1 false (Qn 18))),
(Qa (Qv 20) (Qk Qt (Qn 19))),
(Qa (Qv 21) (Qd (Qo (Qp (Qq (Qr Qu 0))))))]
def f59_c7 : MC := .reg false f59_r7
def f59_r8 : List MO := [
(Qa (Qv 22) (Qe Qt Go.BinOp.lss (Qn 21) (Qn 20)))]
def f59_c8 : MC := .reg false f59_r8
def f59_c9 : MC := MC.skip
def f59_c10 : MC := (MC.exit 2)
def f59_c11 : MC := .cond (Qn 22) f59_c9 f59_c10
def f59_r12 : List MO := [
(Qa (Qv 23) (Qj 1 (Qn 19) (Qn 21))),
(Qa (Qv 24) (Qf 1 false (Qn 23))),
(Qa (Qv 6) (Qd (Qn 24)))]
def f59_c12 : MC := .reg false f59_r12
def f59_r13 : List MO := [
(Qa (Qv 25) (Qd (Qn 0))),
(Qa (Qv 26) (Qd (Qn 3))),
(Qa (Qv 27) (Qd (Qn 6))),
(Qa (Qv 28) (MOp.build [(Qr Qu 0), (Qr Qu 0)] [(0, (1, (Qn 26))), (1, (1, (Qn 27)))])),
(Qa (Qv 29) (MOp.callv (Qn 25) [(Qn 28)])),
(Qa (Qv 30) (MOp.not (Qn 29)))]
def f59_c13 : MC := .reg false f59_r13
def f59_c14 : MC := (MC.exit 0)
def f59_c15 : MC := MC.skip
def f59_c16 : MC := .cond (Qn 30) f59_c14 f59_c15
def f59_c17 : MC := .seq f59_c13 f59_c16
def f59_c18 : MC := .seq f59_c12 f59_c17
def f59_c19 : MC := .blk 3 f59_c18
def f59_r20 : List MO := [
(Qa (Qv 31) (Qe Qt Go.BinOp.add (Qn 21) (Qo (Qp (Qq (Qr Qu 1)))))),
(Qa (Qv 21) (Qd (Qn 31)))]
def f59_c20 : MC := .reg false f59_r20
def f59_c21 : MC := .seq f59_c19 f59_c20
def f59_c22 : MC := .seq f59_c11 f59_c21
def f59_c23 : MC := .seq f59_c8 f59_c22
def f59_c24 : MC := .loop f59_c23
def f59_c25 : MC := .blk 2 f59_c24
def f59_c26 : MC := .seq f59_c7 f59_c25
def f59_c27 : MC := .seq f59_c6 f59_c26
def f59_c28 : MC := .blk 1 f59_c27
def f59_r29 : List MO := [
(Qa (Qv 32) (Qe Qt Go.BinOp.add (Qn 13) (Qo (Qp (Qq (Qr Qu 1)))))),
(Qa (Qv 13) (Qd (Qn 32)))]
def f59_c29 : MC := .reg false f59_r29
def f59_c30 : MC := .seq f59_c28 f59_c29
def f59_c31 : MC := .seq f59_c5 f59_c30
def f59_c32 : MC := .seq f59_c2 f59_c31
def f59_c33 : MC := .loop f59_c32
def f59_c34 : MC := .blk 0 f59_c33
def f59_c35 : MC := .seq f59_c1 f59_c34
def f59_c36 : MC := .seq f59_c0 f59_c35
def f59_c37 : MC := .scope f59_c36
noncomputable def f59_code : Code := (Go.Proofs.Tryz.f59.body).getD .skip
theorem f59_body : Go.Proofs.Tryz.f59.body = Qv f59_code := by kernel_rfl
theorem f59_tr : trC Go.Proofs.Tryz.prog [] f59_code = Qv f59_c37 := by kernel_rfl
theorem f59_rs : rsOf Go.Proofs.Tryz.prog Go.Proofs.Tryz.f59.results.toList = Qv [] := by kernel_rfl
theorem f59_nt : Go.Proofs.Tryz.f59.ntmps = 33 := by kernel_rfl
theorem f59_ok : callable Go.Proofs.Tryz.prog 59 = true := by kernel_rfl
theorem f59_in {gp : Heap} {args : List V} {res : V} (h : G ⟨Go.Proofs.Tryz.prog, gp, 0, [], fun r c => r = res ∧ c = [], false⟩ [.code f59_c37, .fin] ⟨args ++ List.replicate (33 - args.length) .un, []⟩) : Does Go.Proofs.Tryz.prog gp 59 args res :=
  does_intro f59_ok Go.Proofs.Tryz.func59 f59_body f59_tr f59_rs (by rw [f59_nt]; exact h)
theorem f59_tri {gp : Heap} {args : List V} {pre : List Ch} {R : V → List Ch → Prop} (h : G ⟨Go.Proofs.Tryz.prog, gp, pre.length, [], R, false⟩ [.code f59_c37, .fin] ⟨args ++ List.replicate (33 - args.length) .un, pre⟩) : Tri Go.Proofs.Tryz.prog gp 59 args pre R :=
  tri_intro Go.Proofs.Tryz.func59 f59_body f59_tr f59_rs (by rw [f59_nt]; exact h)

end Go.Fw.L07
