/- Small codes. -/
import Derived.Test.YtphdiiaiclfjgaaDoorFd
import Derived.Test.YtphdiiaiclfjgaaDoorProg
set_option linter.all false
namespace Go.Fw.L07
open Go Go.Fw
open Go.Fw.MO renaming op → Qa, chk → Qb
open Go.Fw.MOp renaming mv → Qc, bin → Qd, load → Qe, fad → Qf, call → Qg, ext → Qh, iad → Qi, len → Qj, store → Qk, pick → Ql
open Go.Fw.Opd renaming t → Qm, c → Qn
open Go.Fw.V renaming one → Qo
open Go.Fw.A renaming d → Qp
open Go.Fw.D renaming int → Qq, bool → Qr
open Go.Fw.Leaf renaming i → Qs
open Go.IntKind renaming i64 → Qt
open Option renaming some → Qu
/-! sigillary/sigillarylaw07.Cut -/
def f10_r0 : List MO := [
(Qa (Qu 1) (MOp.ibox (Qm 0))),
(Qa (Qu 2) (MOp.alloc [(Qq Qt 0), (D.sl [])]))]
def f10_c0 : MC := .reg false f10_r0
def f10_r1 : List MO := [
(Qa (Qu 9) (Qf 0 (Qm 1))),
(Qa (Qu 10) (Qe 1 false (Qm 9))),
(Qa (Qu 11) (MOp.build [(Qq Qt 0), (D.sl [])] [(0, (1, (Qm 10)))])),
(Qa (Qu 3) (MOp.alloc [(Qq Qt 0), (D.sl [])])),
(Qa none (Qk 2 (Qm 3) (Qm 11)))]
def f10_c1 : MC := .reg false f10_r1
def f10_r2 : List MO := [
(Qa (Qu 4) (Qc (Qn (Qo (Qp (Qq Qt 0))))))]
def f10_c2 : MC := .reg false f10_r2
def f10_r3 : List MO := [
(Qa (Qu 12) (Qc (Qm 4))),
(Qa (Qu 13) (Qf 1 (Qm 1))),
(Qa (Qu 14) (Qe 1 false (Qm 13))),
(Qa (Qu 15) (Qj Qs (Qm 14))),
(Qa (Qu 16) (Qd Qs Go.BinOp.lss (Qm 12) (Qm 15))),
(Qa (Qu 17) (Qc (Qm 16))),
(Qb 17 true (Qu 18)),
(Qa (Qu 18) (Qc (Qm 4))),
(Qb 17 true (Qu 19)),
(Qa (Qu 19) (Qd Qs Go.BinOp.lss (Qm 18) (Qn (Qo (Qp (Qq Qt 201)))))),
(Qa (Qu 20) (Ql (Qm 17) (Qm 19) (Qn (Qo (Qp (Qr false))))))]
def f10_c3 : MC := .reg false f10_r3
def f10_c4 : MC := MC.skip
def f10_c5 : MC := (MC.exit 0)
def f10_c6 : MC := .cond (Qm 20) f10_c4 f10_c5
def f10_c7 : MC := .seq f10_c3 f10_c6
def f10_r8 : List MO := [
(Qa (Qu 23) (Qf 1 (Qm 1))),
(Qa (Qu 24) (Qe 1 false (Qm 23))),
(Qa (Qu 25) (Qc (Qm 4))),
(Qa (Qu 26) (Qi 6 (Qm 24) (Qm 25))),
(Qa (Qu 27) (Qe 6 true (Qm 26))),
(Qa (Qu 5) (MOp.alloc [(Qq Qt 0), (Qq Qt 0), (Qq Qt 0), (D.str (ByteArray.mk #[])), (D.sl []), (D.sl [])])),
(Qa none (Qk 6 (Qm 5) (Qm 27)))]
def f10_c8 : MC := .reg false f10_r8
def f10_r9 : List MO := [
(Qa (Qu 28) (Qf 0 (Qm 5))),
(Qa (Qu 29) (Qe 1 false (Qm 28))),
(Qa (Qu 30) (Qf 1 (Qm 5))),
(Qa (Qu 31) (Qe 3 true (Qm 30))),
(Qa (Qu 32) (Qg 23 [(Qm 31)])),
(Qa (Qu 33) (MOp.build [(Qq Qt 0), (Qq Qt 0), (Qq Qt 0), (D.str (ByteArray.mk #[])), (D.sl []), (D.sl [])] [(0, (1, (Qm 29))), (1, (3, (Qm 32)))])),
(Qa (Qu 6) (MOp.alloc [(Qq Qt 0), (Qq Qt 0), (Qq Qt 0), (D.str (ByteArray.mk #[])), (D.sl []), (D.sl [])])),
(Qa none (Qk 6 (Qm 6) (Qm 33)))]
def f10_c9 : MC := .reg true f10_r9
def f10_r10 : List MO := [
(Qa (Qu 7) (Qc (Qn (Qo (Qp (Qq Qt 0))))))]
def f10_c10 : MC := .reg false f10_r10
def f10_r11 : List MO := [
(Qa (Qu 34) (Qc (Qm 7))),
(Qa (Qu 35) (Qf 4 (Qm 5))),
(Qa (Qu 36) (Qe 1 false (Qm 35))),
(Qa (Qu 37) (Qj Qs (Qm 36))),
(Qa (Qu 38) (Qd Qs Go.BinOp.lss (Qm 34) (Qm 37))),
(Qa (Qu 39) (Qc (Qm 38))),
(Qb 39 true (Qu 40)),
(Qa (Qu 40) (Qc (Qm 7))),
(Qb 39 true (Qu 41)),
(Qa (Qu 41) (Qd Qs Go.BinOp.lss (Qm 40) (Qn (Qo (Qp (Qq Qt 12)))))),
(Qa (Qu 42) (Ql (Qm 39) (Qm 41) (Qn (Qo (Qp (Qr false))))))]
def f10_c11 : MC := .reg false f10_r11
def f10_c12 : MC := MC.skip
def f10_c13 : MC := (MC.exit 2)
def f10_c14 : MC := .cond (Qm 42) f10_c12 f10_c13
def f10_c15 : MC := .seq f10_c11 f10_c14
def f10_r16 : List MO := [
(Qa (Qu 45) (Qf 4 (Qm 6))),
(Qa (Qu 46) (Qe 1 false (Qm 45))),
(Qa (Qu 47) (Qf 4 (Qm 5))),
(Qa (Qu 48) (Qe 1 false (Qm 47))),
(Qa (Qu 49) (Qc (Qm 7))),
(Qa (Qu 50) (Qi 3 (Qm 48) (Qm 49))),
(Qa (Qu 51) (Qe 3 true (Qm 50))),
(Qa (Qu 52) (Qg 23 [(Qm 51)])),
(Qa (Qu 53) (MOp.bslice 3 [(Qq Qt 0), (Qq Qt 0), (D.str (ByteArray.mk #[]))] 1 [(0, (Qm 52))])),
(Qa (Qu 54) (MOp.app 3 32 (Qm 46) (Qm 53))),
(Qa (Qu 55) (Qf 4 (Qm 6))),
(Qa none (Qk 1 (Qm 55) (Qm 54)))]
def f10_c16 : MC := .reg true f10_r16
def f10_c17 : MC := .blk 3 f10_c16
def f10_r18 : List MO := [
(Qa (Qu 43) (Qc (Qm 7))),
(Qa (Qu 44) (Qd Qs Go.BinOp.add (Qm 43) (Qn (Qo (Qp (Qq Qt 1)))))),
(Qa (Qu 7) (Qc (Qm 44)))]
def f10_c18 : MC := .reg false f10_r18
def f10_c19 : MC := .seq f10_c17 f10_c18
def f10_c20 : MC := .seq f10_c15 f10_c19
def f10_c21 : MC := .loop f10_c20
def f10_c22 : MC := .blk 2 f10_c21
def f10_c23 : MC := .seq f10_c10 f10_c22
def f10_r24 : List MO := [
(Qa (Qu 8) (Qc (Qn (Qo (Qp (Qq Qt 0))))))]
def f10_c24 : MC := .reg false f10_r24
def f10_r25 : List MO := [
(Qa (Qu 56) (Qc (Qm 8))),
(Qa (Qu 57) (Qf 5 (Qm 5))),
(Qa (Qu 58) (Qe 1 false (Qm 57))),
(Qa (Qu 59) (Qj Qs (Qm 58))),
(Qa (Qu 60) (Qd Qs Go.BinOp.lss (Qm 56) (Qm 59))),
(Qa (Qu 61) (Qc (Qm 60))),
(Qb 61 true (Qu 62)),
(Qa (Qu 62) (Qc (Qm 8))),
(Qb 61 true (Qu 63)),
(Qa (Qu 63) (Qd Qs Go.BinOp.lss (Qm 62) (Qn (Qo (Qp (Qq Qt 12)))))),
(Qa (Qu 64) (Ql (Qm 61) (Qm 63) (Qn (Qo (Qp (Qr false))))))]
def f10_c25 : MC := .reg false f10_r25
def f10_c26 : MC := MC.skip
def f10_c27 : MC := (MC.exit 4)
def f10_c28 : MC := .cond (Qm 64) f10_c26 f10_c27
def f10_c29 : MC := .seq f10_c25 f10_c28
def f10_r30 : List MO := [
(Qa (Qu 67) (Qf 5 (Qm 6))),
(Qa (Qu 68) (Qe 1 false (Qm 67))),
(Qa (Qu 69) (Qf 5 (Qm 5))),
(Qa (Qu 70) (Qe 1 false (Qm 69))),
(Qa (Qu 71) (Qc (Qm 8))),
(Qa (Qu 72) (Qi 1 (Qm 70) (Qm 71))),
(Qa (Qu 73) (Qe 1 false (Qm 72))),
(Qa (Qu 74) (MOp.bslice 1 [(Qq Qt 0)] 1 [(0, (Qm 73))])),
(Qa (Qu 75) (MOp.app 1 8 (Qm 68) (Qm 74))),
(Qa (Qu 76) (Qf 5 (Qm 6))),
(Qa none (Qk 1 (Qm 76) (Qm 75)))]
def f10_c30 : MC := .reg true f10_r30
def f10_c31 : MC := .blk 5 f10_c30
def f10_r32 : List MO := [
(Qa (Qu 65) (Qc (Qm 8))),
(Qa (Qu 66) (Qd Qs Go.BinOp.add (Qm 65) (Qn (Qo (Qp (Qq Qt 1)))))),
(Qa (Qu 8) (Qc (Qm 66)))]
def f10_c32 : MC := .reg false f10_r32
def f10_c33 : MC := .seq f10_c31 f10_c32
def f10_c34 : MC := .seq f10_c29 f10_c33
def f10_c35 : MC := .loop f10_c34
def f10_c36 : MC := .blk 4 f10_c35
def f10_c37 : MC := .seq f10_c24 f10_c36
def f10_r38 : List MO := [
(Qa (Qu 77) (Qf 1 (Qm 3))),
(Qa (Qu 78) (Qe 1 false (Qm 77))),
(Qa (Qu 79) (Qe 6 true (Qm 6))),
(Qa (Qu 80) (MOp.bslice 6 [(Qq Qt 0), (Qq Qt 0), (Qq Qt 0), (D.str (ByteArray.mk #[])), (D.sl []), (D.sl [])] 1 [(0, (Qm 79))])),
(Qa (Qu 81) (MOp.app 6 88 (Qm 78) (Qm 80))),
(Qa (Qu 82) (Qf 1 (Qm 3))),
(Qa none (Qk 1 (Qm 82) (Qm 81)))]
def f10_c38 : MC := .reg false f10_r38
def f10_c39 : MC := .seq f10_c37 f10_c38
def f10_c40 : MC := .seq f10_c23 f10_c39
def f10_c41 : MC := .seq f10_c9 f10_c40
def f10_c42 : MC := .seq f10_c8 f10_c41
def f10_c43 : MC := .blk 1 f10_c42
def f10_r44 : List MO := [
(Qa (Qu 21) (Qc (Qm 4))),
(Qa (Qu 22) (Qd Qs Go.BinOp.add (Qm 21) (Qn (Qo (Qp (Qq Qt 1)))))),
(Qa (Qu 4) (Qc (Qm 22)))]
def f10_c44 : MC := .reg false f10_r44
def f10_c45 : MC := .seq f10_c43 f10_c44
def f10_c46 : MC := .seq f10_c7 f10_c45
def f10_c47 : MC := .loop f10_c46
def f10_c48 : MC := .blk 0 f10_c47
def f10_c49 : MC := .seq f10_c2 f10_c48
def f10_r50 : List MO := [
(Qa (Qu 83) (Qe 2 true (Qm 3))),
(Qa none (Qk 2 (Qm 2) (Qm 83)))]
def f10_c50 : MC := .reg false f10_r50
def f10_c51 : MC := MC.ret
def f10_c52 : MC := .seq f10_c50 f10_c51
def f10_c53 : MC := .seq f10_c49 f10_c52
def f10_c54 : MC := .seq f10_c1 f10_c53
def f10_c55 : MC := .seq f10_c0 f10_c54
noncomputable def f10_code : Code := (Go.Proofs.Tryd.f10.body).getD .skip
theorem f10_body : Go.Proofs.Tryd.f10.body = Qu f10_code := by kernel_rfl
theorem f10_tr : trC Go.Proofs.Tryd.prog [1] f10_code = Qu f10_c55 := by kernel_rfl
theorem f10_rs : rsOf Go.Proofs.Tryd.prog Go.Proofs.Tryd.f10.results.toList = Qu [(RV.cell 2 2 true)] := by kernel_rfl
theorem f10_nt : Go.Proofs.Tryd.f10.ntmps = 84 := by kernel_rfl
theorem f10_ok : callable Go.Proofs.Tryd.prog 10 = true := by kernel_rfl
theorem f10_in {gp : Heap} {args : List V} {res : V} (h : G ⟨Go.Proofs.Tryd.prog, gp, 0, [(RV.cell 2 2 true)], fun r c => r = res ∧ c = [], false⟩ [.code f10_c55, .fin] ⟨args ++ List.replicate (84 - args.length) .un, []⟩) : Does Go.Proofs.Tryd.prog gp 10 args res :=
  does_intro f10_ok Go.Proofs.Tryd.func10 f10_body f10_tr f10_rs (by rw [f10_nt]; exact h)
theorem f10_tri {gp : Heap} {args : List V} {pre : List Ch} {R : V → List Ch → Prop} (h : G ⟨Go.Proofs.Tryd.prog, gp, pre.length, [(RV.cell 2 2 true)], R, false⟩ [.code f10_c55, .fin] ⟨args ++ List.replicate (84 - args.length) .un, pre⟩) : Tri Go.Proofs.Tryd.prog gp 10 args pre R :=
  tri_intro Go.Proofs.Tryd.func10 f10_body f10_tr f10_rs (by rw [f10_nt]; exact h)

/-! sigillary/arena.Check -/
def f13_r0 : List MO := [
(Qa (Qu 1) (MOp.ibox (Qm 0))),
(Qa (Qu 2) (Qc (Qn (Qo (Qp (Qq Qt 0)))))),
(Qa (Qu 3) (Qc (Qn (Qo (Qp (Qq Qt 0))))))]
def f13_c0 : MC := .reg false f13_r0
def f13_r1 : List MO := [
(Qa (Qu 4) (Qe 2 true (Qm 1))),
(Qa (Qu 5) (Qg 28 [(Qm 4)])),
(Qa (Qu 6) (Qg 27 [(Qm 5)])),
(Qa (Qu 7) (Qh (Qm 6) 0)),
(Qa (Qu 8) (Qh (Qm 6) 1)),
(Qa (Qu 2) (Qc (Qm 7))),
(Qa (Qu 3) (Qc (Qm 8)))]
def f13_c1 : MC := .reg false f13_r1
def f13_c2 : MC := MC.ret
def f13_c3 : MC := .seq f13_c1 f13_c2
def f13_c4 : MC := .seq f13_c0 f13_c3
noncomputable def f13_code : Code := (Go.Proofs.Tryd.f13.body).getD .skip
theorem f13_body : Go.Proofs.Tryd.f13.body = Qu f13_code := by kernel_rfl
theorem f13_tr : trC Go.Proofs.Tryd.prog [1] f13_code = Qu f13_c4 := by kernel_rfl
theorem f13_rs : rsOf Go.Proofs.Tryd.prog Go.Proofs.Tryd.f13.results.toList = Qu [(RV.t 2), (RV.t 3)] := by kernel_rfl
theorem f13_nt : Go.Proofs.Tryd.f13.ntmps = 9 := by kernel_rfl
theorem f13_ok : callable Go.Proofs.Tryd.prog 13 = true := by kernel_rfl
theorem f13_in {gp : Heap} {args : List V} {res : V} (h : G ⟨Go.Proofs.Tryd.prog, gp, 0, [(RV.t 2), (RV.t 3)], fun r c => r = res ∧ c = [], false⟩ [.code f13_c4, .fin] ⟨args ++ List.replicate (9 - args.length) .un, []⟩) : Does Go.Proofs.Tryd.prog gp 13 args res :=
  does_intro f13_ok Go.Proofs.Tryd.func13 f13_body f13_tr f13_rs (by rw [f13_nt]; exact h)
theorem f13_tri {gp : Heap} {args : List V} {pre : List Ch} {R : V → List Ch → Prop} (h : G ⟨Go.Proofs.Tryd.prog, gp, pre.length, [(RV.t 2), (RV.t 3)], R, false⟩ [.code f13_c4, .fin] ⟨args ++ List.replicate (9 - args.length) .un, pre⟩) : Tri Go.Proofs.Tryd.prog gp 13 args pre R :=
  tri_intro Go.Proofs.Tryd.func13 f13_body f13_tr f13_rs (by rw [f13_nt]; exact h)

/-! sigillary/arena.Same -/
def f15_r0 : List MO := [
(Qa (Qu 2) (MOp.ibox (Qm 0))),
(Qa (Qu 3) (MOp.ibox (Qm 1))),
(Qa (Qu 4) (Qc (Qn (Qo (Qp (Qr false))))))]
def f15_c0 : MC := .reg false f15_r0
def f15_r1 : List MO := [
(Qa (Qu 5) (Qc (Qn (Qo (Qp (D.fn (Go.Fn.func 29) []))))))]
def f15_c1 : MC := .reg false f15_r1
def f15_r2 : List MO := [
(Qa (Qu 6) (Qf 0 (Qm 2))),
(Qa (Qu 7) (Qe 1 false (Qm 6))),
(Qa (Qu 8) (Qf 0 (Qm 3))),
(Qa (Qu 9) (Qe 1 false (Qm 8))),
(Qa (Qu 10) (Qd Qs Go.BinOp.eql (Qm 7) (Qm 9))),
(Qa (Qu 11) (Qc (Qm 10))),
(Qb 11 true (Qu 12)),
(Qa (Qu 12) (Qf 1 (Qm 2))),
(Qb 11 true (Qu 13)),
(Qa (Qu 13) (Qe 1 false (Qm 12))),
(Qb 11 true (Qu 14)),
(Qa (Qu 14) (Qf 1 (Qm 3))),
(Qb 11 true (Qu 15)),
(Qa (Qu 15) (Qe 1 false (Qm 14))),
(Qb 11 true (Qu 16)),
(Qa (Qu 16) (Qc (Qm 5))),
(Qb 11 true (Qu 17)),
(Qa (Qu 17) (Qg 32 [(Qm 13), (Qm 15), (Qm 16)])),
(Qa (Qu 18) (Ql (Qm 11) (Qm 17) (Qn (Qo (Qp (Qr false)))))),
(Qa (Qu 4) (Qc (Qm 18)))]
def f15_c2 : MC := .reg false f15_r2
def f15_c3 : MC := MC.ret
def f15_c4 : MC := .seq f15_c2 f15_c3
def f15_c5 : MC := .seq f15_c1 f15_c4
def f15_c6 : MC := .seq f15_c0 f15_c5
noncomputable def f15_code : Code := (Go.Proofs.Tryd.f15.body).getD .skip
theorem f15_body : Go.Proofs.Tryd.f15.body = Qu f15_code := by kernel_rfl
theorem f15_tr : trC Go.Proofs.Tryd.prog [2, 3] f15_code = Qu f15_c6 := by kernel_rfl
theorem f15_rs : rsOf Go.Proofs.Tryd.prog Go.Proofs.Tryd.f15.results.toList = Qu [(RV.t 4)] := by kernel_rfl
theorem f15_nt : Go.Proofs.Tryd.f15.ntmps = 19 := by kernel_rfl
theorem f15_ok : callable Go.Proofs.Tryd.prog 15 = true := by kernel_rfl
theorem f15_in {gp : Heap} {args : List V} {res : V} (h : G ⟨Go.Proofs.Tryd.prog, gp, 0, [(RV.t 4)], fun r c => r = res ∧ c = [], false⟩ [.code f15_c6, .fin] ⟨args ++ List.replicate (19 - args.length) .un, []⟩) : Does Go.Proofs.Tryd.prog gp 15 args res :=
  does_intro f15_ok Go.Proofs.Tryd.func15 f15_body f15_tr f15_rs (by rw [f15_nt]; exact h)
theorem f15_tri {gp : Heap} {args : List V} {pre : List Ch} {R : V → List Ch → Prop} (h : G ⟨Go.Proofs.Tryd.prog, gp, pre.length, [(RV.t 4)], R, false⟩ [.code f15_c6, .fin] ⟨args ++ List.replicate (19 - args.length) .un, pre⟩) : Tri Go.Proofs.Tryd.prog gp 15 args pre R :=
  tri_intro Go.Proofs.Tryd.func15 f15_body f15_tr f15_rs (by rw [f15_nt]; exact h)

/-! sigillary/arena.Keys -/
def f18_r0 : List MO := [
(Qa (Qu 2) (MOp.ibox (Qm 0))),
(Qa (Qu 4) (Qc (Qn (Qo A.nil)))),
(Qa (Qu 5) (Qc (Qn (Qo (Qp (Qq Qt 0))))))]
def f18_c0 : MC := .reg false f18_r0
def f18_r1 : List MO := [
(Qa (Qu 12) (Qe 2 true (Qm 2))),
(Qa (Qu 13) (Qc (Qm 1))),
(Qa (Qu 14) (Qg 33 [(Qm 12), (Qm 13)])),
(Qa (Qu 11) (Qc (Qm 14))),
(Qa (Qu 15) (Qh (Qm 11) 0)),
(Qa (Qu 16) (Qh (Qm 11) 1)),
(Qa (Qu 6) (MOp.alloc [(Qq Qt 0), (Qq Qt 0), (Qq Qt 0), (D.str (ByteArray.mk #[])), (D.sl []), (D.sl []), (Qq Qt 0)])),
(Qa none (Qk 7 (Qm 6) (Qm 15))),
(Qa (Qu 7) (Qc (Qm 16)))]
def f18_c1 : MC := .reg false f18_r1
def f18_r2 : List MO := [
(Qa (Qu 8) (Qc (Qn (Qo A.nil))))]
def f18_c2 : MC := .reg false f18_r2
def f18_r3 : List MO := [
(Qa (Qu 17) (Qe 7 true (Qm 6))),
(Qa (Qu 18) (Qg 34 [(Qm 17)])),
(Qa (Qu 19) (Qj Qs (Qm 18))),
(Qa (Qu 20) (Qc (Qn (Qo (Qp (Qq Qt 0))))))]
def f18_c3 : MC := .reg false f18_r3
def f18_r4 : List MO := [
(Qa (Qu 21) (Qd Qs Go.BinOp.lss (Qm 20) (Qm 19)))]
def f18_c4 : MC := .reg false f18_r4
def f18_c5 : MC := MC.skip
def f18_c6 : MC := (MC.exit 0)
def f18_c7 : MC := .cond (Qm 21) f18_c5 f18_c6
def f18_r8 : List MO := [
(Qa (Qu 22) (Qi 4 (Qm 18) (Qm 20))),
(Qa (Qu 23) (Qe 4 true (Qm 22))),
(Qa (Qu 10) (MOp.alloc [(Qq Qt 0), (Qq Qt 0), (D.str (ByteArray.mk #[])), (Qq Qt 0)])),
(Qa none (Qk 4 (Qm 10) (Qm 23)))]
def f18_c8 : MC := .reg false f18_r8
def f18_r9 : List MO := [
(Qa (Qu 24) (Qc (Qm 8))),
(Qa (Qu 25) (Qf 0 (Qm 10))),
(Qa (Qu 26) (Qe 3 true (Qm 25))),
(Qa (Qu 27) (MOp.bslice 3 [(Qq Qt 0), (Qq Qt 0), (D.str (ByteArray.mk #[]))] 1 [(0, (Qm 26))])),
(Qa (Qu 28) (MOp.app 3 32 (Qm 24) (Qm 27))),
(Qa (Qu 8) (Qc (Qm 28)))]
def f18_c9 : MC := .reg false f18_r9
def f18_c10 : MC := .seq f18_c8 f18_c9
def f18_c11 : MC := .blk 1 f18_c10
def f18_r12 : List MO := [
(Qa (Qu 29) (Qd Qs Go.BinOp.add (Qm 20) (Qn (Qo (Qp (Qq Qt 1)))))),
(Qa (Qu 20) (Qc (Qm 29)))]
def f18_c12 : MC := .reg false f18_r12
def f18_c13 : MC := .seq f18_c11 f18_c12
def f18_c14 : MC := .seq f18_c7 f18_c13
def f18_c15 : MC := .seq f18_c4 f18_c14
def f18_c16 : MC := .loop f18_c15
def f18_c17 : MC := .blk 0 f18_c16
def f18_c18 : MC := .seq f18_c3 f18_c17
def f18_r19 : List MO := [
(Qa (Qu 30) (Qc (Qm 8))),
(Qa (Qu 31) (Qc (Qm 7))),
(Qa (Qu 4) (Qc (Qm 30))),
(Qa (Qu 5) (Qc (Qm 31)))]
def f18_c19 : MC := .reg false f18_r19
def f18_c20 : MC := MC.ret
def f18_c21 : MC := .seq f18_c19 f18_c20
def f18_c22 : MC := .seq f18_c18 f18_c21
def f18_c23 : MC := .seq f18_c2 f18_c22
def f18_c24 : MC := .seq f18_c1 f18_c23
def f18_c25 : MC := .seq f18_c0 f18_c24
noncomputable def f18_code : Code := (Go.Proofs.Tryd.f18.body).getD .skip
theorem f18_body : Go.Proofs.Tryd.f18.body = Qu f18_code := by kernel_rfl
theorem f18_tr : trC Go.Proofs.Tryd.prog [2] f18_code = Qu f18_c25 := by kernel_rfl
theorem f18_rs : rsOf Go.Proofs.Tryd.prog Go.Proofs.Tryd.f18.results.toList = Qu [(RV.t 4), (RV.t 5)] := by kernel_rfl
theorem f18_nt : Go.Proofs.Tryd.f18.ntmps = 32 := by kernel_rfl
theorem f18_ok : callable Go.Proofs.Tryd.prog 18 = true := by kernel_rfl
theorem f18_in {gp : Heap} {args : List V} {res : V} (h : G ⟨Go.Proofs.Tryd.prog, gp, 0, [(RV.t 4), (RV.t 5)], fun r c => r = res ∧ c = [], false⟩ [.code f18_c25, .fin] ⟨args ++ List.replicate (32 - args.length) .un, []⟩) : Does Go.Proofs.Tryd.prog gp 18 args res :=
  does_intro f18_ok Go.Proofs.Tryd.func18 f18_body f18_tr f18_rs (by rw [f18_nt]; exact h)
theorem f18_tri {gp : Heap} {args : List V} {pre : List Ch} {R : V → List Ch → Prop} (h : G ⟨Go.Proofs.Tryd.prog, gp, pre.length, [(RV.t 4), (RV.t 5)], R, false⟩ [.code f18_c25, .fin] ⟨args ++ List.replicate (32 - args.length) .un, pre⟩) : Tri Go.Proofs.Tryd.prog gp 18 args pre R :=
  tri_intro Go.Proofs.Tryd.func18 f18_body f18_tr f18_rs (by rw [f18_nt]; exact h)

/-! sigillary/sigillaryref06.Same -/
def f19_r0 : List MO := [
(Qa (Qu 4) (Qc (Qn (Qo (Qp (Qr false))))))]
def f19_c0 : MC := .reg false f19_r0
def f19_r1 : List MO := [
(Qa (Qu 6) (Qc (Qm 0))),
(Qa (Qu 7) (Qj Qs (Qm 6))),
(Qa (Qu 8) (Qc (Qm 1))),
(Qa (Qu 9) (Qj Qs (Qm 8))),
(Qa (Qu 10) (Qd Qs Go.BinOp.neq (Qm 7) (Qm 9)))]
def f19_c1 : MC := .reg false f19_r1
def f19_r2 : List MO := [
(Qa (Qu 4) (Qc (Qn (Qo (Qp (Qr false))))))]
def f19_c2 : MC := .reg false f19_r2
def f19_c3 : MC := MC.ret
def f19_c4 : MC := .seq f19_c2 f19_c3
def f19_c5 : MC := MC.skip
def f19_c6 : MC := .cond (Qm 10) f19_c4 f19_c5
def f19_c7 : MC := .seq f19_c1 f19_c6
def f19_r8 : List MO := [
(Qa (Qu 5) (Qc (Qn (Qo (Qp (Qq Qt 0))))))]
def f19_c8 : MC := .reg false f19_r8
def f19_r9 : List MO := [
(Qa (Qu 11) (Qc (Qm 5))),
(Qa (Qu 12) (Qc (Qm 0))),
(Qa (Qu 13) (Qj Qs (Qm 12))),
(Qa (Qu 14) (Qd Qs Go.BinOp.lss (Qm 11) (Qm 13)))]
def f19_c9 : MC := .reg false f19_r9
def f19_c10 : MC := MC.skip
def f19_c11 : MC := (MC.exit 0)
def f19_c12 : MC := .cond (Qm 14) f19_c10 f19_c11
def f19_c13 : MC := .seq f19_c9 f19_c12
def f19_r14 : List MO := [
(Qa (Qu 17) (Qc (Qm 0))),
(Qa (Qu 18) (Qc (Qm 5))),
(Qa (Qu 19) (Qi 3 (Qm 17) (Qm 18))),
(Qa (Qu 20) (Qe 3 true (Qm 19))),
(Qa (Qu 21) (Qc (Qm 1))),
(Qa (Qu 22) (Qc (Qm 5))),
(Qa (Qu 23) (Qi 3 (Qm 21) (Qm 22))),
(Qa (Qu 24) (Qe 3 true (Qm 23))),
(Qa (Qu 25) (MOp.eqs true [Qs, Qs, Leaf.s] (Qm 20) (Qm 24)))]
def f19_c14 : MC := .reg true f19_r14
def f19_r15 : List MO := [
(Qa (Qu 4) (Qc (Qn (Qo (Qp (Qr false))))))]
def f19_c15 : MC := .reg false f19_r15
def f19_c16 : MC := MC.ret
def f19_c17 : MC := .seq f19_c15 f19_c16
def f19_c18 : MC := MC.skip
def f19_c19 : MC := .cond (Qm 25) f19_c17 f19_c18
def f19_c20 : MC := .seq f19_c14 f19_c19
def f19_c21 : MC := .blk 1 f19_c20
def f19_r22 : List MO := [
(Qa (Qu 15) (Qc (Qm 5))),
(Qa (Qu 16) (Qd Qs Go.BinOp.add (Qm 15) (Qn (Qo (Qp (Qq Qt 1)))))),
(Qa (Qu 5) (Qc (Qm 16)))]
def f19_c22 : MC := .reg false f19_r22
def f19_c23 : MC := .seq f19_c21 f19_c22
def f19_c24 : MC := .seq f19_c13 f19_c23
def f19_c25 : MC := .loop f19_c24
def f19_c26 : MC := .blk 0 f19_c25
def f19_c27 : MC := .seq f19_c8 f19_c26
def f19_r28 : List MO := [
(Qa (Qu 4) (Qc (Qn (Qo (Qp (Qr true))))))]
def f19_c28 : MC := .reg false f19_r28
def f19_c29 : MC := MC.ret
def f19_c30 : MC := .seq f19_c28 f19_c29
def f19_c31 : MC := .seq f19_c27 f19_c30
def f19_c32 : MC := .seq f19_c7 f19_c31
def f19_c33 : MC := .seq f19_c0 f19_c32
noncomputable def f19_code : Code := (Go.Proofs.Tryd.f19.body).getD .skip
theorem f19_body : Go.Proofs.Tryd.f19.body = Qu f19_code := by kernel_rfl
theorem f19_tr : trC Go.Proofs.Tryd.prog [] f19_code = Qu f19_c33 := by kernel_rfl
theorem f19_rs : rsOf Go.Proofs.Tryd.prog Go.Proofs.Tryd.f19.results.toList = Qu [(RV.t 4)] := by kernel_rfl
theorem f19_nt : Go.Proofs.Tryd.f19.ntmps = 26 := by kernel_rfl
theorem f19_ok : callable Go.Proofs.Tryd.prog 19 = true := by kernel_rfl
theorem f19_in {gp : Heap} {args : List V} {res : V} (h : G ⟨Go.Proofs.Tryd.prog, gp, 0, [(RV.t 4)], fun r c => r = res ∧ c = [], false⟩ [.code f19_c33, .fin] ⟨args ++ List.replicate (26 - args.length) .un, []⟩) : Does Go.Proofs.Tryd.prog gp 19 args res :=
  does_intro f19_ok Go.Proofs.Tryd.func19 f19_body f19_tr f19_rs (by rw [f19_nt]; exact h)
theorem f19_tri {gp : Heap} {args : List V} {pre : List Ch} {R : V → List Ch → Prop} (h : G ⟨Go.Proofs.Tryd.prog, gp, pre.length, [(RV.t 4)], R, false⟩ [.code f19_c33, .fin] ⟨args ++ List.replicate (26 - args.length) .un, pre⟩) : Tri Go.Proofs.Tryd.prog gp 19 args pre R :=
  tri_intro Go.Proofs.Tryd.func19 f19_body f19_tr f19_rs (by rw [f19_nt]; exact h)

/-! sigillary/arena.Kids -/
def f21_r0 : List MO := [
(Qa (Qu 2) (MOp.ibox (Qm 0))),
(Qa (Qu 4) (Qc (Qn (Qo A.nil)))),
(Qa (Qu 5) (Qc (Qn (Qo (Qp (Qq Qt 0))))))]
def f21_c0 : MC := .reg false f21_r0
def f21_r1 : List MO := [
(Qa (Qu 12) (Qe 2 true (Qm 2))),
(Qa (Qu 13) (Qc (Qm 1))),
(Qa (Qu 14) (Qg 33 [(Qm 12), (Qm 13)])),
(Qa (Qu 11) (Qc (Qm 14))),
(Qa (Qu 15) (Qh (Qm 11) 0)),
(Qa (Qu 16) (Qh (Qm 11) 1)),
(Qa (Qu 6) (MOp.alloc [(Qq Qt 0), (Qq Qt 0), (Qq Qt 0), (D.str (ByteArray.mk #[])), (D.sl []), (D.sl []), (Qq Qt 0)])),
(Qa none (Qk 7 (Qm 6) (Qm 15))),
(Qa (Qu 7) (Qc (Qm 16)))]
def f21_c1 : MC := .reg false f21_r1
def f21_r2 : List MO := [
(Qa (Qu 17) (Qc (Qm 7))),
(Qa (Qu 18) (Qd Qs Go.BinOp.eql (Qm 17) (Qn (Qo (Qp (Qq Qt 0)))))),
(Qa (Qu 19) (Qc (Qm 18))),
(Qb 19 true (Qu 20)),
(Qa (Qu 20) (Qf 0 (Qm 6))),
(Qb 19 true (Qu 21)),
(Qa (Qu 21) (Qf 0 (Qm 20))),
(Qb 19 true (Qu 22)),
(Qa (Qu 22) (Qe 1 false (Qm 21))),
(Qb 19 true (Qu 23)),
(Qa (Qu 23) (Qd Qs Go.BinOp.eql (Qm 22) (Qn (Qo (Qp (Qq Qt 1)))))),
(Qa (Qu 24) (Ql (Qm 19) (Qm 23) (Qn (Qo (Qp (Qr false))))))]
def f21_c2 : MC := .reg false f21_r2
def f21_r3 : List MO := [
(Qa (Qu 25) (Qf 0 (Qm 6))),
(Qa (Qu 26) (Qf 5 (Qm 25))),
(Qa (Qu 27) (Qe 1 false (Qm 26))),
(Qa (Qu 28) (Qg 35 [(Qm 27)])),
(Qa (Qu 29) (Qc (Qm 7))),
(Qa (Qu 4) (Qc (Qm 28))),
(Qa (Qu 5) (Qc (Qm 29)))]
def f21_c3 : MC := .reg false f21_r3
def f21_c4 : MC := MC.ret
def f21_c5 : MC := .seq f21_c3 f21_c4
def f21_c6 : MC := MC.skip
def f21_c7 : MC := .cond (Qm 24) f21_c5 f21_c6
def f21_c8 : MC := .seq f21_c2 f21_c7
def f21_r9 : List MO := [
(Qa (Qu 8) (Qc (Qn (Qo A.nil))))]
def f21_c9 : MC := .reg false f21_r9
def f21_r10 : List MO := [
(Qa (Qu 30) (Qe 7 true (Qm 6))),
(Qa (Qu 31) (Qg 34 [(Qm 30)])),
(Qa (Qu 32) (Qj Qs (Qm 31))),
(Qa (Qu 33) (Qc (Qn (Qo (Qp (Qq Qt 0))))))]
def f21_c10 : MC := .reg false f21_r10
def f21_r11 : List MO := [
(Qa (Qu 34) (Qd Qs Go.BinOp.lss (Qm 33) (Qm 32)))]
def f21_c11 : MC := .reg false f21_r11
def f21_c12 : MC := MC.skip
def f21_c13 : MC := (MC.exit 0)
def f21_c14 : MC := .cond (Qm 34) f21_c12 f21_c13
def f21_r15 : List MO := [
(Qa (Qu 35) (Qi 4 (Qm 31) (Qm 33))),
(Qa (Qu 36) (Qe 4 true (Qm 35))),
(Qa (Qu 10) (MOp.alloc [(Qq Qt 0), (Qq Qt 0), (D.str (ByteArray.mk #[])), (Qq Qt 0)])),
(Qa none (Qk 4 (Qm 10) (Qm 36)))]
def f21_c15 : MC := .reg false f21_r15
def f21_r16 : List MO := [
(Qa (Qu 37) (Qc (Qm 8))),
(Qa (Qu 38) (Qf 3 (Qm 10))),
(Qa (Qu 39) (Qe 1 false (Qm 38))),
(Qa (Qu 40) (MOp.bslice 1 [(Qq Qt 0)] 1 [(0, (Qm 39))])),
(Qa (Qu 41) (MOp.app 1 8 (Qm 37) (Qm 40))),
(Qa (Qu 8) (Qc (Qm 41)))]
def f21_c16 : MC := .reg false f21_r16
def f21_c17 : MC := .seq f21_c15 f21_c16
def f21_c18 : MC := .blk 1 f21_c17
def f21_r19 : List MO := [
(Qa (Qu 42) (Qd Qs Go.BinOp.add (Qm 33) (Qn (Qo (Qp (Qq Qt 1)))))),
(Qa (Qu 33) (Qc (Qm 42)))]
def f21_c19 : MC := .reg false f21_r19
def f21_c20 : MC := .seq f21_c18 f21_c19
def f21_c21 : MC := .seq f21_c14 f21_c20
def f21_c22 : MC := .seq f21_c11 f21_c21
def f21_c23 : MC := .loop f21_c22
def f21_c24 : MC := .blk 0 f21_c23
def f21_c25 : MC := .seq f21_c10 f21_c24
def f21_r26 : List MO := [
(Qa (Qu 43) (Qc (Qm 8))),
(Qa (Qu 44) (Qc (Qm 7))),
(Qa (Qu 4) (Qc (Qm 43))),
(Qa (Qu 5) (Qc (Qm 44)))]
def f21_c26 : MC := .reg false f21_r26
def f21_c27 : MC := MC.ret
def f21_c28 : MC := .seq f21_c26 f21_c27
def f21_c29 : MC := .seq f21_c25 f21_c28
def f21_c30 : MC := .seq f21_c9 f21_c29
def f21_c31 : MC := .seq f21_c8 f21_c30
def f21_c32 : MC := .seq f21_c1 f21_c31
def f21_c33 : MC := .seq f21_c0 f21_c32
noncomputable def f21_code : Code := (Go.Proofs.Tryd.f21.body).getD .skip
theorem f21_body : Go.Proofs.Tryd.f21.body = Qu f21_code := by kernel_rfl
theorem f21_tr : trC Go.Proofs.Tryd.prog [2] f21_code = Qu f21_c33 := by kernel_rfl
theorem f21_rs : rsOf Go.Proofs.Tryd.prog Go.Proofs.Tryd.f21.results.toList = Qu [(RV.t 4), (RV.t 5)] := by kernel_rfl
theorem f21_nt : Go.Proofs.Tryd.f21.ntmps = 45 := by kernel_rfl
theorem f21_ok : callable Go.Proofs.Tryd.prog 21 = true := by kernel_rfl
theorem f21_in {gp : Heap} {args : List V} {res : V} (h : G ⟨Go.Proofs.Tryd.prog, gp, 0, [(RV.t 4), (RV.t 5)], fun r c => r = res ∧ c = [], false⟩ [.code f21_c33, .fin] ⟨args ++ List.replicate (45 - args.length) .un, []⟩) : Does Go.Proofs.Tryd.prog gp 21 args res :=
  does_intro f21_ok Go.Proofs.Tryd.func21 f21_body f21_tr f21_rs (by rw [f21_nt]; exact h)
theorem f21_tri {gp : Heap} {args : List V} {pre : List Ch} {R : V → List Ch → Prop} (h : G ⟨Go.Proofs.Tryd.prog, gp, pre.length, [(RV.t 4), (RV.t 5)], R, false⟩ [.code f21_c33, .fin] ⟨args ++ List.replicate (45 - args.length) .un, pre⟩) : Tri Go.Proofs.Tryd.prog gp 21 args pre R :=
  tri_intro Go.Proofs.Tryd.func21 f21_body f21_tr f21_rs (by rw [f21_nt]; exact h)

/-! sigillary/sigillaryref01.Ints -/
def f22_r0 : List MO := [
(Qa (Qu 4) (Qc (Qn (Qo (Qp (Qr false))))))]
def f22_c0 : MC := .reg false f22_r0
def f22_r1 : List MO := [
(Qa (Qu 6) (Qc (Qm 0))),
(Qa (Qu 7) (Qj Qs (Qm 6))),
(Qa (Qu 8) (Qc (Qm 1))),
(Qa (Qu 9) (Qj Qs (Qm 8))),
(Qa (Qu 10) (Qd Qs Go.BinOp.neq (Qm 7) (Qm 9)))]
def f22_c1 : MC := .reg false f22_r1
def f22_r2 : List MO := [
(Qa (Qu 4) (Qc (Qn (Qo (Qp (Qr false))))))]
def f22_c2 : MC := .reg false f22_r2
def f22_c3 : MC := MC.ret
def f22_c4 : MC := .seq f22_c2 f22_c3
def f22_c5 : MC := MC.skip
def f22_c6 : MC := .cond (Qm 10) f22_c4 f22_c5
def f22_c7 : MC := .seq f22_c1 f22_c6
def f22_r8 : List MO := [
(Qa (Qu 5) (Qc (Qn (Qo (Qp (Qq Qt 0))))))]
def f22_c8 : MC := .reg false f22_r8
def f22_r9 : List MO := [
(Qa (Qu 11) (Qc (Qm 5))),
(Qa (Qu 12) (Qc (Qm 0))),
(Qa (Qu 13) (Qj Qs (Qm 12))),
(Qa (Qu 14) (Qd Qs Go.BinOp.lss (Qm 11) (Qm 13)))]
def f22_c9 : MC := .reg false f22_r9
def f22_c10 : MC := MC.skip
def f22_c11 : MC := (MC.exit 0)
def f22_c12 : MC := .cond (Qm 14) f22_c10 f22_c11
def f22_c13 : MC := .seq f22_c9 f22_c12
def f22_r14 : List MO := [
(Qa (Qu 17) (Qc (Qm 0))),
(Qa (Qu 18) (Qc (Qm 5))),
(Qa (Qu 19) (Qi 1 (Qm 17) (Qm 18))),
(Qa (Qu 20) (Qe 1 false (Qm 19))),
(Qa (Qu 21) (Qc (Qm 1))),
(Qa (Qu 22) (Qc (Qm 5))),
(Qa (Qu 23) (Qi 1 (Qm 21) (Qm 22))),
(Qa (Qu 24) (Qe 1 false (Qm 23))),
(Qa (Qu 25) (Qd Qs Go.BinOp.neq (Qm 20) (Qm 24)))]
def f22_c14 : MC := .reg true f22_r14
def f22_r15 : List MO := [
(Qa (Qu 4) (Qc (Qn (Qo (Qp (Qr false))))))]
def f22_c15 : MC := .reg false f22_r15
def f22_c16 : MC := MC.ret
def f22_c17 : MC := .seq f22_c15 f22_c16
def f22_c18 : MC := MC.skip
def f22_c19 : MC := .cond (Qm 25) f22_c17 f22_c18
def f22_c20 : MC := .seq f22_c14 f22_c19
def f22_c21 : MC := .blk 1 f22_c20
def f22_r22 : List MO := [
(Qa (Qu 15) (Qc (Qm 5))),
(Qa (Qu 16) (Qd Qs Go.BinOp.add (Qm 15) (Qn (Qo (Qp (Qq Qt 1)))))),
(Qa (Qu 5) (Qc (Qm 16)))]
def f22_c22 : MC := .reg false f22_r22
def f22_c23 : MC := .seq f22_c21 f22_c22
def f22_c24 : MC := .seq f22_c13 f22_c23
def f22_c25 : MC := .loop f22_c24
def f22_c26 : MC := .blk 0 f22_c25
def f22_c27 : MC := .seq f22_c8 f22_c26
def f22_r28 : List MO := [
(Qa (Qu 4) (Qc (Qn (Qo (Qp (Qr true))))))]
def f22_c28 : MC := .reg false f22_r28
def f22_c29 : MC := MC.ret
def f22_c30 : MC := .seq f22_c28 f22_c29
def f22_c31 : MC := .seq f22_c27 f22_c30
def f22_c32 : MC := .seq f22_c7 f22_c31
def f22_c33 : MC := .seq f22_c0 f22_c32
noncomputable def f22_code : Code := (Go.Proofs.Tryd.f22.body).getD .skip
theorem f22_body : Go.Proofs.Tryd.f22.body = Qu f22_code := by kernel_rfl
theorem f22_tr : trC Go.Proofs.Tryd.prog [] f22_code = Qu f22_c33 := by kernel_rfl
theorem f22_rs : rsOf Go.Proofs.Tryd.prog Go.Proofs.Tryd.f22.results.toList = Qu [(RV.t 4)] := by kernel_rfl
theorem f22_nt : Go.Proofs.Tryd.f22.ntmps = 26 := by kernel_rfl
theorem f22_ok : callable Go.Proofs.Tryd.prog 22 = true := by kernel_rfl
theorem f22_in {gp : Heap} {args : List V} {res : V} (h : G ⟨Go.Proofs.Tryd.prog, gp, 0, [(RV.t 4)], fun r c => r = res ∧ c = [], false⟩ [.code f22_c33, .fin] ⟨args ++ List.replicate (26 - args.length) .un, []⟩) : Does Go.Proofs.Tryd.prog gp 22 args res :=
  does_intro f22_ok Go.Proofs.Tryd.func22 f22_body f22_tr f22_rs (by rw [f22_nt]; exact h)
theorem f22_tri {gp : Heap} {args : List V} {pre : List Ch} {R : V → List Ch → Prop} (h : G ⟨Go.Proofs.Tryd.prog, gp, pre.length, [(RV.t 4)], R, false⟩ [.code f22_c33, .fin] ⟨args ++ List.replicate (26 - args.length) .un, pre⟩) : Tri Go.Proofs.Tryd.prog gp 22 args pre R :=
  tri_intro Go.Proofs.Tryd.func22 f22_body f22_tr f22_rs (by rw [f22_nt]; exact h)

/-! sigillary/sigillarylaw06.Cut -/
def f23_r0 : List MO := [
(Qa (Qu 1) (MOp.ibox (Qm 0))),
(Qa (Qu 2) (MOp.alloc [(Qq Qt 0), (Qq Qt 0), (D.str (ByteArray.mk #[]))]))]
def f23_c0 : MC := .reg false f23_r0
def f23_r1 : List MO := [
(Qa (Qu 3) (Qf 0 (Qm 1))),
(Qa (Qu 4) (Qe 1 false (Qm 3))),
(Qa (Qu 5) (Qf 1 (Qm 1))),
(Qa (Qu 6) (Qe 1 false (Qm 5))),
(Qa (Qu 7) (Qf 2 (Qm 1))),
(Qa (Qu 8) (Qe 1 false (Qm 7))),
(Qa (Qu 9) (Qg 36 [(Qm 8)])),
(Qa (Qu 10) (MOp.build [(Qq Qt 0), (Qq Qt 0), (D.str (ByteArray.mk #[]))] [(0, (1, (Qm 4))), (1, (1, (Qm 6))), (2, (1, (Qm 9)))])),
(Qa none (Qk 3 (Qm 2) (Qm 10)))]
def f23_c1 : MC := .reg true f23_r1
def f23_c2 : MC := MC.ret
def f23_c3 : MC := .seq f23_c1 f23_c2
def f23_c4 : MC := .seq f23_c0 f23_c3
noncomputable def f23_code : Code := (Go.Proofs.Tryd.f23.body).getD .skip
theorem f23_body : Go.Proofs.Tryd.f23.body = Qu f23_code := by kernel_rfl
theorem f23_tr : trC Go.Proofs.Tryd.prog [1] f23_code = Qu f23_c4 := by kernel_rfl
theorem f23_rs : rsOf Go.Proofs.Tryd.prog Go.Proofs.Tryd.f23.results.toList = Qu [(RV.cell 2 3 true)] := by kernel_rfl
theorem f23_nt : Go.Proofs.Tryd.f23.ntmps = 11 := by kernel_rfl
theorem f23_ok : callable Go.Proofs.Tryd.prog 23 = true := by kernel_rfl
theorem f23_in {gp : Heap} {args : List V} {res : V} (h : G ⟨Go.Proofs.Tryd.prog, gp, 0, [(RV.cell 2 3 true)], fun r c => r = res ∧ c = [], false⟩ [.code f23_c4, .fin] ⟨args ++ List.replicate (11 - args.length) .un, []⟩) : Does Go.Proofs.Tryd.prog gp 23 args res :=
  does_intro f23_ok Go.Proofs.Tryd.func23 f23_body f23_tr f23_rs (by rw [f23_nt]; exact h)
theorem f23_tri {gp : Heap} {args : List V} {pre : List Ch} {R : V → List Ch → Prop} (h : G ⟨Go.Proofs.Tryd.prog, gp, pre.length, [(RV.cell 2 3 true)], R, false⟩ [.code f23_c4, .fin] ⟨args ++ List.replicate (11 - args.length) .un, pre⟩) : Tri Go.Proofs.Tryd.prog gp 23 args pre R :=
  tri_intro Go.Proofs.Tryd.func23 f23_body f23_tr f23_rs (by rw [f23_nt]; exact h)

/-! sigillary/arena.told -/
def f27_r0 : List MO := [
(Qa (Qu 2) (Qc (Qn (Qo (Qp (Qq Qt 0)))))),
(Qa (Qu 3) (Qc (Qn (Qo (Qp (Qq Qt 0))))))]
def f27_c0 : MC := .reg false f27_r0
def f27_r1 : List MO := [
(Qa (Qu 4) (MOp.alloc [(Qq Qt 0), (Qq Qt 0)]))]
def f27_c1 : MC := .reg false f27_r1
def f27_r2 : List MO := [
(Qa (Qu 5) (Qc (Qm 0))),
(Qa (Qu 6) (MOp.mkI 83 (Qm 4))),
(Qa (Qu 7) (Qg 38 [(Qm 5), (Qm 6)]))]
def f27_c2 : MC := .reg false f27_r2
def f27_r3 : List MO := [
(Qa (Qu 8) (Qf 0 (Qm 4))),
(Qa (Qu 9) (Qe 1 false (Qm 8))),
(Qa (Qu 10) (Qf 1 (Qm 4))),
(Qa (Qu 11) (Qe 1 false (Qm 10))),
(Qa (Qu 2) (Qc (Qm 9))),
(Qa (Qu 3) (Qc (Qm 11)))]
def f27_c3 : MC := .reg true f27_r3
def f27_c4 : MC := MC.ret
def f27_c5 : MC := .seq f27_c3 f27_c4
def f27_c6 : MC := MC.skip
def f27_c7 : MC := .cond (Qm 7) f27_c5 f27_c6
def f27_c8 : MC := .seq f27_c2 f27_c7
def f27_r9 : List MO := [
(Qa (Qu 2) (Qc (Qn (Qo (Qp (Qq Qt 0)))))),
(Qa (Qu 3) (Qc (Qn (Qo (Qp (Qq Qt 0))))))]
def f27_c9 : MC := .reg false f27_r9
def f27_c10 : MC := MC.ret
def f27_c11 : MC := .seq f27_c9 f27_c10
def f27_c12 : MC := .seq f27_c8 f27_c11
def f27_c13 : MC := .seq f27_c1 f27_c12
def f27_c14 : MC := .seq f27_c0 f27_c13
noncomputable def f27_code : Code := (Go.Proofs.Tryd.f27.body).getD .skip
theorem f27_body : Go.Proofs.Tryd.f27.body = Qu f27_code := by kernel_rfl
theorem f27_tr : trC Go.Proofs.Tryd.prog [] f27_code = Qu f27_c14 := by kernel_rfl
theorem f27_rs : rsOf Go.Proofs.Tryd.prog Go.Proofs.Tryd.f27.results.toList = Qu [(RV.t 2), (RV.t 3)] := by kernel_rfl
theorem f27_nt : Go.Proofs.Tryd.f27.ntmps = 12 := by kernel_rfl
theorem f27_ok : callable Go.Proofs.Tryd.prog 27 = true := by kernel_rfl
theorem f27_in {gp : Heap} {args : List V} {res : V} (h : G ⟨Go.Proofs.Tryd.prog, gp, 0, [(RV.t 2), (RV.t 3)], fun r c => r = res ∧ c = [], false⟩ [.code f27_c14, .fin] ⟨args ++ List.replicate (12 - args.length) .un, []⟩) : Does Go.Proofs.Tryd.prog gp 27 args res :=
  does_intro f27_ok Go.Proofs.Tryd.func27 f27_body f27_tr f27_rs (by rw [f27_nt]; exact h)
theorem f27_tri {gp : Heap} {args : List V} {pre : List Ch} {R : V → List Ch → Prop} (h : G ⟨Go.Proofs.Tryd.prog, gp, pre.length, [(RV.t 2), (RV.t 3)], R, false⟩ [.code f27_c14, .fin] ⟨args ++ List.replicate (12 - args.length) .un, pre⟩) : Tri Go.Proofs.Tryd.prog gp 27 args pre R :=
  tri_intro Go.Proofs.Tryd.func27 f27_body f27_tr f27_rs (by rw [f27_nt]; exact h)

/-! sigillary/arena.check -/
def f28_r0 : List MO := [
(Qa (Qu 1) (MOp.ibox (Qm 0))),
(Qa (Qu 2) (MOp.alloc [D.nilI]))]
def f28_c0 : MC := .reg false f28_r0
def f28_r1 : List MO := [
(Qa (Qu 6) (Qf 1 (Qm 1))),
(Qa (Qu 7) (Qe 1 false (Qm 6))),
(Qa (Qu 8) (Qj Qs (Qm 7))),
(Qa (Qu 9) (Qd Qs Go.BinOp.gtr (Qm 8) (Qn (Qo (Qp (Qq Qt 200)))))),
(Qa (Qu 5) (Qc (Qm 9)))]
def f28_c1 : MC := .reg false f28_r1
def f28_r2 : List MO := [
(Qa (Qu 10) (MOp.build [(Qq Qt 0), (Qq Qt 0)] [(0, (1, (Qn (Qo (Qp (Qq Qt 0)))))), (1, (1, (Qn (Qo (Qp (Qq Qt 71))))))])),
(Qa (Qu 11) (MOp.mkI 81 (Qm 10))),
(Qa none (Qk 1 (Qm 2) (Qm 11)))]
def f28_c2 : MC := .reg false f28_r2
def f28_c3 : MC := MC.ret
def f28_c4 : MC := .seq f28_c2 f28_c3
def f28_r5 : List MO := [
(Qa (Qu 13) (Qe 2 true (Qm 1))),
(Qa (Qu 14) (Qf 0 (Qm 1))),
(Qa (Qu 15) (Qe 1 false (Qm 14))),
(Qa (Qu 16) (Qg 39 [(Qm 13), (Qm 15)])),
(Qa (Qu 17) (MOp.not (Qm 16))),
(Qa (Qu 12) (Qc (Qm 17)))]
def f28_c5 : MC := .reg false f28_r5
def f28_r6 : List MO := [
(Qa (Qu 18) (MOp.build [(Qq Qt 0), (Qq Qt 0)] [(0, (1, (Qn (Qo (Qp (Qq Qt (-1))))))), (1, (1, (Qn (Qo (Qp (Qq Qt 70))))))])),
(Qa (Qu 19) (MOp.mkI 81 (Qm 18))),
(Qa none (Qk 1 (Qm 2) (Qm 19)))]
def f28_c6 : MC := .reg false f28_r6
def f28_c7 : MC := MC.ret
def f28_c8 : MC := .seq f28_c6 f28_c7
def f28_c9 : MC := MC.skip
def f28_c10 : MC := .cond (Qm 12) f28_c8 f28_c9
def f28_c11 : MC := .seq f28_c5 f28_c10
def f28_c12 : MC := .cond (Qm 5) f28_c4 f28_c11
def f28_c13 : MC := .seq f28_c1 f28_c12
def f28_c14 : MC := .blk 0 f28_c13
def f28_r15 : List MO := [
(Qa (Qu 20) (Qe 2 true (Qm 1))),
(Qa (Qu 21) (Qg 40 [(Qm 20)]))]
def f28_c15 : MC := .reg false f28_r15
def f28_r16 : List MO := [
(Qa (Qu 3) (Qc (Qm 22)))]
def f28_c16 : MC := .reg false f28_r16
def f28_r17 : List MO := [
(Qa (Qu 4) (MOp.alloc [(Qq Qt 0), (Qq Qt 0), (Qq Qt 0), (D.str (ByteArray.mk #[])), (D.sl []), (D.sl []), (Qq Qt 0)])),
(Qa none (Qk 7 (Qm 4) (Qm 23)))]
def f28_c17 : MC := .reg false f28_r17
def f28_c18 : MC := .seq f28_c16 f28_c17
def f28_r19 : List MO := [
(Qa (Qu 24) (Qe 7 true (Qm 4))),
(Qa (Qu 25) (Qg 41 [(Qm 24)])),
(Qa (Qu 26) (MOp.not (Qm 25)))]
def f28_c19 : MC := .reg false f28_r19
def f28_r20 : List MO := [
(Qa (Qu 27) (Qc (Qm 3))),
(Qa (Qu 28) (MOp.build [(Qq Qt 0), (Qq Qt 0)] [(0, (1, (Qm 27))), (1, (1, (Qn (Qo (Qp (Qq Qt 70))))))])),
(Qa (Qu 29) (MOp.mkI 81 (Qm 28))),
(Qa none (Qk 1 (Qm 2) (Qm 29)))]
def f28_c20 : MC := .reg false f28_r20
def f28_c21 : MC := MC.ret
def f28_c22 : MC := .seq f28_c20 f28_c21
def f28_c23 : MC := MC.skip
def f28_c24 : MC := .cond (Qm 26) f28_c22 f28_c23
def f28_c25 : MC := .seq f28_c19 f28_c24
def f28_c26 : MC := .blk 2 f28_c25
def f28_c27 : MC := .rf (Qm 21) [22, 23] f28_c18 f28_c26
def f28_c28 : MC := .blk 1 f28_c27
def f28_c29 : MC := .seq f28_c15 f28_c28
def f28_r30 : List MO := [
(Qa none (Qk 1 (Qm 2) (Qn (Qo (Qp D.nilI)))))]
def f28_c30 : MC := .reg false f28_r30
def f28_c31 : MC := MC.ret
def f28_c32 : MC := .seq f28_c30 f28_c31
def f28_c33 : MC := .seq f28_c29 f28_c32
def f28_c34 : MC := .seq f28_c14 f28_c33
def f28_c35 : MC := .seq f28_c0 f28_c34
noncomputable def f28_code : Code := (Go.Proofs.Tryd.f28.body).getD .skip
theorem f28_body : Go.Proofs.Tryd.f28.body = Qu f28_code := by kernel_rfl
theorem f28_tr : trC Go.Proofs.Tryd.prog [1] f28_code = Qu f28_c35 := by kernel_rfl
theorem f28_rs : rsOf Go.Proofs.Tryd.prog Go.Proofs.Tryd.f28.results.toList = Qu [(RV.cell 2 1 false)] := by kernel_rfl
theorem f28_nt : Go.Proofs.Tryd.f28.ntmps = 30 := by kernel_rfl
theorem f28_ok : callable Go.Proofs.Tryd.prog 28 = true := by kernel_rfl
theorem f28_in {gp : Heap} {args : List V} {res : V} (h : G ⟨Go.Proofs.Tryd.prog, gp, 0, [(RV.cell 2 1 false)], fun r c => r = res ∧ c = [], false⟩ [.code f28_c35, .fin] ⟨args ++ List.replicate (30 - args.length) .un, []⟩) : Does Go.Proofs.Tryd.prog gp 28 args res :=
  does_intro f28_ok Go.Proofs.Tryd.func28 f28_body f28_tr f28_rs (by rw [f28_nt]; exact h)
theorem f28_tri {gp : Heap} {args : List V} {pre : List Ch} {R : V → List Ch → Prop} (h : G ⟨Go.Proofs.Tryd.prog, gp, pre.length, [(RV.cell 2 1 false)], R, false⟩ [.code f28_c35, .fin] ⟨args ++ List.replicate (30 - args.length) .un, pre⟩) : Tri Go.Proofs.Tryd.prog gp 28 args pre R :=
  tri_intro Go.Proofs.Tryd.func28 f28_body f28_tr f28_rs (by rw [f28_nt]; exact h)

/-! sigillary/arena.Same$1 -/
def f29_r0 : List MO := [
(Qa (Qu 2) (MOp.ibox (Qm 0))),
(Qa (Qu 3) (MOp.ibox (Qm 1))),
(Qa (Qu 4) (Qc (Qn (Qo (Qp (Qr false))))))]
def f29_c0 : MC := .reg false f29_r0
def f29_r1 : List MO := [
(Qa (Qu 5) (Qf 0 (Qm 2))),
(Qa (Qu 6) (Qe 1 false (Qm 5))),
(Qa (Qu 7) (Qf 0 (Qm 3))),
(Qa (Qu 8) (Qe 1 false (Qm 7))),
(Qa (Qu 9) (Qd Qs Go.BinOp.eql (Qm 6) (Qm 8))),
(Qa (Qu 10) (Qc (Qm 9))),
(Qb 10 true (Qu 11)),
(Qa (Qu 11) (Qf 1 (Qm 2))),
(Qb 10 true (Qu 12)),
(Qa (Qu 12) (Qe 3 true (Qm 11))),
(Qb 10 true (Qu 13)),
(Qa (Qu 13) (Qf 1 (Qm 3))),
(Qb 10 true (Qu 14)),
(Qa (Qu 14) (Qe 3 true (Qm 13))),
(Qb 10 true (Qu 15)),
(Qa (Qu 15) (MOp.eqs false [Qs, Qs, Leaf.s] (Qm 12) (Qm 14))),
(Qa (Qu 16) (Ql (Qm 10) (Qm 15) (Qn (Qo (Qp (Qr false)))))),
(Qa (Qu 17) (Qc (Qm 16))),
(Qb 17 true (Qu 18)),
(Qa (Qu 18) (Qf 4 (Qm 2))),
(Qb 17 true (Qu 19)),
(Qa (Qu 19) (Qe 1 false (Qm 18))),
(Qb 17 true (Qu 20)),
(Qa (Qu 20) (Qf 4 (Qm 3))),
(Qb 17 true (Qu 21)),
(Qa (Qu 21) (Qe 1 false (Qm 20))),
(Qb 17 true (Qu 22)),
(Qa (Qu 22) (Qg 30 [(Qm 19), (Qm 21)])),
(Qa (Qu 23) (Ql (Qm 17) (Qm 22) (Qn (Qo (Qp (Qr false)))))),
(Qa (Qu 24) (Qc (Qm 23))),
(Qb 24 true (Qu 25)),
(Qa (Qu 25) (Qf 5 (Qm 2))),
(Qb 24 true (Qu 26)),
(Qa (Qu 26) (Qe 1 false (Qm 25))),
(Qb 24 true (Qu 27)),
(Qa (Qu 27) (Qf 5 (Qm 3))),
(Qb 24 true (Qu 28)),
(Qa (Qu 28) (Qe 1 false (Qm 27))),
(Qb 24 true (Qu 29)),
(Qa (Qu 29) (Qg 31 [(Qm 26), (Qm 28)])),
(Qa (Qu 30) (Ql (Qm 24) (Qm 29) (Qn (Qo (Qp (Qr false)))))),
(Qa (Qu 4) (Qc (Qm 30)))]
def f29_c1 : MC := .reg false f29_r1
def f29_c2 : MC := MC.ret
def f29_c3 : MC := .seq f29_c1 f29_c2
def f29_c4 : MC := .seq f29_c0 f29_c3
noncomputable def f29_code : Code := (Go.Proofs.Tryd.f29.body).getD .skip
theorem f29_body : Go.Proofs.Tryd.f29.body = Qu f29_code := by kernel_rfl
theorem f29_tr : trC Go.Proofs.Tryd.prog [2, 3] f29_code = Qu f29_c4 := by kernel_rfl
theorem f29_rs : rsOf Go.Proofs.Tryd.prog Go.Proofs.Tryd.f29.results.toList = Qu [(RV.t 4)] := by kernel_rfl
theorem f29_nt : Go.Proofs.Tryd.f29.ntmps = 31 := by kernel_rfl
theorem f29_ok : callable Go.Proofs.Tryd.prog 29 = true := by kernel_rfl
theorem f29_in {gp : Heap} {args : List V} {res : V} (h : G ⟨Go.Proofs.Tryd.prog, gp, 0, [(RV.t 4)], fun r c => r = res ∧ c = [], false⟩ [.code f29_c4, .fin] ⟨args ++ List.replicate (31 - args.length) .un, []⟩) : Does Go.Proofs.Tryd.prog gp 29 args res :=
  does_intro f29_ok Go.Proofs.Tryd.func29 f29_body f29_tr f29_rs (by rw [f29_nt]; exact h)
theorem f29_tri {gp : Heap} {args : List V} {pre : List Ch} {R : V → List Ch → Prop} (h : G ⟨Go.Proofs.Tryd.prog, gp, pre.length, [(RV.t 4)], R, false⟩ [.code f29_c4, .fin] ⟨args ++ List.replicate (31 - args.length) .un, pre⟩) : Tri Go.Proofs.Tryd.prog gp 29 args pre R :=
  tri_intro Go.Proofs.Tryd.func29 f29_body f29_tr f29_rs (by rw [f29_nt]; exact h)

/-! slices.Equal[[]sigillary/api.Scalar,sigillary/api.Scalar] -/
def f30_r0 : List MO := [
(Qa (Qu 4) (Qc (Qn (Qo (Qp (Qr false))))))]
def f30_c0 : MC := .reg false f30_r0
def f30_r1 : List MO := [
(Qa (Qu 6) (Qc (Qm 0))),
(Qa (Qu 7) (Qj Qs (Qm 6))),
(Qa (Qu 8) (Qc (Qm 1))),
(Qa (Qu 9) (Qj Qs (Qm 8))),
(Qa (Qu 10) (Qd Qs Go.BinOp.neq (Qm 7) (Qm 9)))]
def f30_c1 : MC := .reg false f30_r1
def f30_r2 : List MO := [
(Qa (Qu 4) (Qc (Qn (Qo (Qp (Qr false))))))]
def f30_c2 : MC := .reg false f30_r2
def f30_c3 : MC := MC.ret
def f30_c4 : MC := .seq f30_c2 f30_c3
def f30_c5 : MC := MC.skip
def f30_c6 : MC := .cond (Qm 10) f30_c4 f30_c5
def f30_c7 : MC := .seq f30_c1 f30_c6
def f30_r8 : List MO := [
(Qa (Qu 11) (Qc (Qm 0))),
(Qa (Qu 12) (Qj Qs (Qm 11))),
(Qa (Qu 13) (Qc (Qn (Qo (Qp (Qq Qt 0))))))]
def f30_c8 : MC := .reg false f30_r8
def f30_r9 : List MO := [
(Qa (Qu 14) (Qd Qs Go.BinOp.lss (Qm 13) (Qm 12)))]
def f30_c9 : MC := .reg false f30_r9
def f30_c10 : MC := MC.skip
def f30_c11 : MC := (MC.exit 0)
def f30_c12 : MC := .cond (Qm 14) f30_c10 f30_c11
def f30_r13 : List MO := [
(Qa (Qu 15) (Qc (Qm 13))),
(Qa (Qu 5) (Qc (Qm 15)))]
def f30_c13 : MC := .reg false f30_r13
def f30_r14 : List MO := [
(Qa (Qu 16) (Qc (Qm 0))),
(Qa (Qu 17) (Qc (Qm 5))),
(Qa (Qu 18) (Qi 3 (Qm 16) (Qm 17))),
(Qa (Qu 19) (Qe 3 true (Qm 18))),
(Qa (Qu 20) (Qc (Qm 1))),
(Qa (Qu 21) (Qc (Qm 5))),
(Qa (Qu 22) (Qi 3 (Qm 20) (Qm 21))),
(Qa (Qu 23) (Qe 3 true (Qm 22))),
(Qa (Qu 24) (MOp.eqs true [Qs, Qs, Leaf.s] (Qm 19) (Qm 23)))]
def f30_c14 : MC := .reg true f30_r14
def f30_r15 : List MO := [
(Qa (Qu 4) (Qc (Qn (Qo (Qp (Qr false))))))]
def f30_c15 : MC := .reg false f30_r15
def f30_c16 : MC := MC.ret
def f30_c17 : MC := .seq f30_c15 f30_c16
def f30_c18 : MC := MC.skip
def f30_c19 : MC := .cond (Qm 24) f30_c17 f30_c18
def f30_c20 : MC := .seq f30_c14 f30_c19
def f30_c21 : MC := .seq f30_c13 f30_c20
def f30_c22 : MC := .blk 1 f30_c21
def f30_r23 : List MO := [
(Qa (Qu 25) (Qd Qs Go.BinOp.add (Qm 13) (Qn (Qo (Qp (Qq Qt 1)))))),
(Qa (Qu 13) (Qc (Qm 25)))]
def f30_c23 : MC := .reg false f30_r23
def f30_c24 : MC := .seq f30_c22 f30_c23
def f30_c25 : MC := .seq f30_c12 f30_c24
def f30_c26 : MC := .seq f30_c9 f30_c25
def f30_c27 : MC := .loop f30_c26
def f30_c28 : MC := .blk 0 f30_c27
def f30_c29 : MC := .seq f30_c8 f30_c28
def f30_r30 : List MO := [
(Qa (Qu 4) (Qc (Qn (Qo (Qp (Qr true))))))]
def f30_c30 : MC := .reg false f30_r30
def f30_c31 : MC := MC.ret
def f30_c32 : MC := .seq f30_c30 f30_c31
def f30_c33 : MC := .seq f30_c29 f30_c32
def f30_c34 : MC := .seq f30_c7 f30_c33
def f30_c35 : MC := .seq f30_c0 f30_c34
noncomputable def f30_code : Code := (Go.Proofs.Tryd.f30.body).getD .skip
theorem f30_body : Go.Proofs.Tryd.f30.body = Qu f30_code := by kernel_rfl
theorem f30_tr : trC Go.Proofs.Tryd.prog [] f30_code = Qu f30_c35 := by kernel_rfl
theorem f30_rs : rsOf Go.Proofs.Tryd.prog Go.Proofs.Tryd.f30.results.toList = Qu [(RV.t 4)] := by kernel_rfl
theorem f30_nt : Go.Proofs.Tryd.f30.ntmps = 26 := by kernel_rfl
theorem f30_ok : callable Go.Proofs.Tryd.prog 30 = true := by kernel_rfl
theorem f30_in {gp : Heap} {args : List V} {res : V} (h : G ⟨Go.Proofs.Tryd.prog, gp, 0, [(RV.t 4)], fun r c => r = res ∧ c = [], false⟩ [.code f30_c35, .fin] ⟨args ++ List.replicate (26 - args.length) .un, []⟩) : Does Go.Proofs.Tryd.prog gp 30 args res :=
  does_intro f30_ok Go.Proofs.Tryd.func30 f30_body f30_tr f30_rs (by rw [f30_nt]; exact h)
theorem f30_tri {gp : Heap} {args : List V} {pre : List Ch} {R : V → List Ch → Prop} (h : G ⟨Go.Proofs.Tryd.prog, gp, pre.length, [(RV.t 4)], R, false⟩ [.code f30_c35, .fin] ⟨args ++ List.replicate (26 - args.length) .un, pre⟩) : Tri Go.Proofs.Tryd.prog gp 30 args pre R :=
  tri_intro Go.Proofs.Tryd.func30 f30_body f30_tr f30_rs (by rw [f30_nt]; exact h)

/-! slices.Equal[[]int,int] -/
def f31_r0 : List MO := [
(Qa (Qu 4) (Qc (Qn (Qo (Qp (Qr false))))))]
def f31_c0 : MC := .reg false f31_r0
def f31_r1 : List MO := [
(Qa (Qu 6) (Qc (Qm 0))),
(Qa (Qu 7) (Qj Qs (Qm 6))),
(Qa (Qu 8) (Qc (Qm 1))),
(Qa (Qu 9) (Qj Qs (Qm 8))),
(Qa (Qu 10) (Qd Qs Go.BinOp.neq (Qm 7) (Qm 9)))]
def f31_c1 : MC := .reg false f31_r1
def f31_r2 : List MO := [
(Qa (Qu 4) (Qc (Qn (Qo (Qp (Qr false))))))]
def f31_c2 : MC := .reg false f31_r2
def f31_c3 : MC := MC.ret
def f31_c4 : MC := .seq f31_c2 f31_c3
def f31_c5 : MC := MC.skip
def f31_c6 : MC := .cond (Qm 10) f31_c4 f31_c5
def f31_c7 : MC := .seq f31_c1 f31_c6
def f31_r8 : List MO := [
(Qa (Qu 11) (Qc (Qm 0))),
(Qa (Qu 12) (Qj Qs (Qm 11))),
(Qa (Qu 13) (Qc (Qn (Qo (Qp (Qq Qt 0))))))]
def f31_c8 : MC := .reg false f31_r8
def f31_r9 : List MO := [
(Qa (Qu 14) (Qd Qs Go.BinOp.lss (Qm 13) (Qm 12)))]
def f31_c9 : MC := .reg false f31_r9
def f31_c10 : MC := MC.skip
def f31_c11 : MC := (MC.exit 0)
def f31_c12 : MC := .cond (Qm 14) f31_c10 f31_c11
def f31_r13 : List MO := [
(Qa (Qu 15) (Qc (Qm 13))),
(Qa (Qu 5) (Qc (Qm 15)))]
def f31_c13 : MC := .reg false f31_r13
def f31_r14 : List MO := [
(Qa (Qu 16) (Qc (Qm 0))),
(Qa (Qu 17) (Qc (Qm 5))),
(Qa (Qu 18) (Qi 1 (Qm 16) (Qm 17))),
(Qa (Qu 19) (Qe 1 false (Qm 18))),
(Qa (Qu 20) (Qc (Qm 1))),
(Qa (Qu 21) (Qc (Qm 5))),
(Qa (Qu 22) (Qi 1 (Qm 20) (Qm 21))),
(Qa (Qu 23) (Qe 1 false (Qm 22))),
(Qa (Qu 24) (Qd Qs Go.BinOp.neq (Qm 19) (Qm 23)))]
def f31_c14 : MC := .reg true f31_r14
def f31_r15 : List MO := [
(Qa (Qu 4) (Qc (Qn (Qo (Qp (Qr false))))))]
def f31_c15 : MC := .reg false f31_r15
def f31_c16 : MC := MC.ret
def f31_c17 : MC := .seq f31_c15 f31_c16
def f31_c18 : MC := MC.skip
def f31_c19 : MC := .cond (Qm 24) f31_c17 f31_c18
def f31_c20 : MC := .seq f31_c14 f31_c19
def f31_c21 : MC := .seq f31_c13 f31_c20
def f31_c22 : MC := .blk 1 f31_c21
def f31_r23 : List MO := [
(Qa (Qu 25) (Qd Qs Go.BinOp.add (Qm 13) (Qn (Qo (Qp (Qq Qt 1)))))),
(Qa (Qu 13) (Qc (Qm 25)))]
def f31_c23 : MC := .reg false f31_r23
def f31_c24 : MC := .seq f31_c22 f31_c23
def f31_c25 : MC := .seq f31_c12 f31_c24
def f31_c26 : MC := .seq f31_c9 f31_c25
def f31_c27 : MC := .loop f31_c26
def f31_c28 : MC := .blk 0 f31_c27
def f31_c29 : MC := .seq f31_c8 f31_c28
def f31_r30 : List MO := [
(Qa (Qu 4) (Qc (Qn (Qo (Qp (Qr true))))))]
def f31_c30 : MC := .reg false f31_r30
def f31_c31 : MC := MC.ret
def f31_c32 : MC := .seq f31_c30 f31_c31
def f31_c33 : MC := .seq f31_c29 f31_c32
def f31_c34 : MC := .seq f31_c7 f31_c33
def f31_c35 : MC := .seq f31_c0 f31_c34
noncomputable def f31_code : Code := (Go.Proofs.Tryd.f31.body).getD .skip
theorem f31_body : Go.Proofs.Tryd.f31.body = Qu f31_code := by kernel_rfl
theorem f31_tr : trC Go.Proofs.Tryd.prog [] f31_code = Qu f31_c35 := by kernel_rfl
theorem f31_rs : rsOf Go.Proofs.Tryd.prog Go.Proofs.Tryd.f31.results.toList = Qu [(RV.t 4)] := by kernel_rfl
theorem f31_nt : Go.Proofs.Tryd.f31.ntmps = 26 := by kernel_rfl
theorem f31_ok : callable Go.Proofs.Tryd.prog 31 = true := by kernel_rfl
theorem f31_in {gp : Heap} {args : List V} {res : V} (h : G ⟨Go.Proofs.Tryd.prog, gp, 0, [(RV.t 4)], fun r c => r = res ∧ c = [], false⟩ [.code f31_c35, .fin] ⟨args ++ List.replicate (26 - args.length) .un, []⟩) : Does Go.Proofs.Tryd.prog gp 31 args res :=
  does_intro f31_ok Go.Proofs.Tryd.func31 f31_body f31_tr f31_rs (by rw [f31_nt]; exact h)
theorem f31_tri {gp : Heap} {args : List V} {pre : List Ch} {R : V → List Ch → Prop} (h : G ⟨Go.Proofs.Tryd.prog, gp, pre.length, [(RV.t 4)], R, false⟩ [.code f31_c35, .fin] ⟨args ++ List.replicate (26 - args.length) .un, pre⟩) : Tri Go.Proofs.Tryd.prog gp 31 args pre R :=
  tri_intro Go.Proofs.Tryd.func31 f31_body f31_tr f31_rs (by rw [f31_nt]; exact h)

/-! slices.EqualFunc[[]sigillary/api.Node,[]sigillary/api.Node,sigillary/api.Node,sigillary/api.Node] -/
def f32_r0 : List MO := [
(Qa (Qu 6) (Qc (Qn (Qo (Qp (Qr false))))))]
def f32_c0 : MC := .reg false f32_r0
def f32_r1 : List MO := [
(Qa (Qu 10) (Qc (Qm 0))),
(Qa (Qu 11) (Qj Qs (Qm 10))),
(Qa (Qu 12) (Qc (Qm 1))),
(Qa (Qu 13) (Qj Qs (Qm 12))),
(Qa (Qu 14) (Qd Qs Go.BinOp.neq (Qm 11) (Qm 13)))]
def f32_c1 : MC := .reg false f32_r1
def f32_r2 : List MO := [
(Qa (Qu 6) (Qc (Qn (Qo (Qp (Qr false))))))]
def f32_c2 : MC := .reg false f32_r2
def f32_c3 : MC := MC.ret
def f32_c4 : MC := .seq f32_c2 f32_c3
def f32_c5 : MC := MC.skip
def f32_c6 : MC := .cond (Qm 14) f32_c4 f32_c5
def f32_c7 : MC := .seq f32_c1 f32_c6
def f32_r8 : List MO := [
(Qa (Qu 15) (Qc (Qm 0))),
(Qa (Qu 16) (Qj Qs (Qm 15))),
(Qa (Qu 17) (Qc (Qn (Qo (Qp (Qq Qt 0))))))]
def f32_c8 : MC := .reg false f32_r8
def f32_r9 : List MO := [
(Qa (Qu 18) (Qd Qs Go.BinOp.lss (Qm 17) (Qm 16)))]
def f32_c9 : MC := .reg false f32_r9
def f32_c10 : MC := MC.skip
def f32_c11 : MC := (MC.exit 0)
def f32_c12 : MC := .cond (Qm 18) f32_c10 f32_c11
def f32_r13 : List MO := [
(Qa (Qu 19) (Qc (Qm 17))),
(Qa (Qu 20) (Qi 6 (Qm 15) (Qm 17))),
(Qa (Qu 21) (Qe 6 true (Qm 20))),
(Qa (Qu 8) (MOp.alloc [(Qq Qt 0), (Qq Qt 0), (Qq Qt 0), (D.str (ByteArray.mk #[])), (D.sl []), (D.sl [])])),
(Qa (Qu 7) (Qc (Qm 19))),
(Qa none (Qk 6 (Qm 8) (Qm 21)))]
def f32_c13 : MC := .reg false f32_r13
def f32_r14 : List MO := [
(Qa (Qu 22) (Qc (Qm 1))),
(Qa (Qu 23) (Qc (Qm 7))),
(Qa (Qu 24) (Qi 6 (Qm 22) (Qm 23))),
(Qa (Qu 25) (Qe 6 true (Qm 24))),
(Qa (Qu 9) (MOp.alloc [(Qq Qt 0), (Qq Qt 0), (Qq Qt 0), (D.str (ByteArray.mk #[])), (D.sl []), (D.sl [])])),
(Qa none (Qk 6 (Qm 9) (Qm 25)))]
def f32_c14 : MC := .reg false f32_r14
def f32_r15 : List MO := [
(Qa (Qu 26) (Qc (Qm 2))),
(Qa (Qu 27) (Qe 6 true (Qm 8))),
(Qa (Qu 28) (Qe 6 true (Qm 9))),
(Qa (Qu 29) (MOp.callv (Qm 26) [(Qm 27), (Qm 28)])),
(Qa (Qu 30) (MOp.not (Qm 29)))]
def f32_c15 : MC := .reg false f32_r15
def f32_r16 : List MO := [
(Qa (Qu 6) (Qc (Qn (Qo (Qp (Qr false))))))]
def f32_c16 : MC := .reg false f32_r16
def f32_c17 : MC := MC.ret
def f32_c18 : MC := .seq f32_c16 f32_c17
def f32_c19 : MC := MC.skip
def f32_c20 : MC := .cond (Qm 30) f32_c18 f32_c19
def f32_c21 : MC := .seq f32_c15 f32_c20
def f32_c22 : MC := .seq f32_c14 f32_c21
def f32_c23 : MC := .seq f32_c13 f32_c22
def f32_c24 : MC := .blk 1 f32_c23
def f32_r25 : List MO := [
(Qa (Qu 31) (Qd Qs Go.BinOp.add (Qm 17) (Qn (Qo (Qp (Qq Qt 1)))))),
(Qa (Qu 17) (Qc (Qm 31)))]
def f32_c25 : MC := .reg false f32_r25
def f32_c26 : MC := .seq f32_c24 f32_c25
def f32_c27 : MC := .seq f32_c12 f32_c26
def f32_c28 : MC := .seq f32_c9 f32_c27
def f32_c29 : MC := .loop f32_c28
def f32_c30 : MC := .blk 0 f32_c29
def f32_c31 : MC := .seq f32_c8 f32_c30
def f32_r32 : List MO := [
(Qa (Qu 6) (Qc (Qn (Qo (Qp (Qr true))))))]
def f32_c32 : MC := .reg false f32_r32
def f32_c33 : MC := MC.ret
def f32_c34 : MC := .seq f32_c32 f32_c33
def f32_c35 : MC := .seq f32_c31 f32_c34
def f32_c36 : MC := .seq f32_c7 f32_c35
def f32_c37 : MC := .seq f32_c0 f32_c36
noncomputable def f32_code : Code := (Go.Proofs.Tryd.f32.body).getD .skip
theorem f32_body : Go.Proofs.Tryd.f32.body = Qu f32_code := by kernel_rfl
theorem f32_tr : trC Go.Proofs.Tryd.prog [] f32_code = Qu f32_c37 := by kernel_rfl
theorem f32_rs : rsOf Go.Proofs.Tryd.prog Go.Proofs.Tryd.f32.results.toList = Qu [(RV.t 6)] := by kernel_rfl
theorem f32_nt : Go.Proofs.Tryd.f32.ntmps = 32 := by kernel_rfl
theorem f32_ok : callable Go.Proofs.Tryd.prog 32 = true := by kernel_rfl
theorem f32_in {gp : Heap} {args : List V} {res : V} (h : G ⟨Go.Proofs.Tryd.prog, gp, 0, [(RV.t 6)], fun r c => r = res ∧ c = [], false⟩ [.code f32_c37, .fin] ⟨args ++ List.replicate (32 - args.length) .un, []⟩) : Does Go.Proofs.Tryd.prog gp 32 args res :=
  does_intro f32_ok Go.Proofs.Tryd.func32 f32_body f32_tr f32_rs (by rw [f32_nt]; exact h)
theorem f32_tri {gp : Heap} {args : List V} {pre : List Ch} {R : V → List Ch → Prop} (h : G ⟨Go.Proofs.Tryd.prog, gp, pre.length, [(RV.t 6)], R, false⟩ [.code f32_c37, .fin] ⟨args ++ List.replicate (32 - args.length) .un, pre⟩) : Tri Go.Proofs.Tryd.prog gp 32 args pre R :=
  tri_intro Go.Proofs.Tryd.func32 f32_body f32_tr f32_rs (by rw [f32_nt]; exact h)

/-! sigillary/arena.at -/
def f33_r0 : List MO := [
(Qa (Qu 2) (MOp.ibox (Qm 0))),
(Qa (Qu 4) (MOp.alloc [(Qq Qt 0), (Qq Qt 0), (Qq Qt 0), (D.str (ByteArray.mk #[])), (D.sl []), (D.sl []), (Qq Qt 0)])),
(Qa (Qu 5) (Qc (Qn (Qo (Qp (Qq Qt 0))))))]
def f33_c0 : MC := .reg false f33_r0
def f33_r1 : List MO := [
(Qa (Qu 6) (Qe 2 true (Qm 2))),
(Qa (Qu 7) (Qc (Qm 1))),
(Qa (Qu 8) (Qg 39 [(Qm 6), (Qm 7)])),
(Qa (Qu 9) (MOp.not (Qm 8)))]
def f33_c1 : MC := .reg false f33_r1
def f33_r2 : List MO := [
(Qa (Qu 10) (MOp.build [(Qq Qt 0), (Qq Qt 0), (Qq Qt 0), (D.str (ByteArray.mk #[])), (D.sl []), (D.sl []), (Qq Qt 0)] [])),
(Qa none (Qk 7 (Qm 4) (Qm 10))),
(Qa (Qu 5) (Qc (Qn (Qo (Qp (Qq Qt 2))))))]
def f33_c2 : MC := .reg false f33_r2
def f33_c3 : MC := MC.ret
def f33_c4 : MC := .seq f33_c2 f33_c3
def f33_c5 : MC := MC.skip
def f33_c6 : MC := .cond (Qm 9) f33_c4 f33_c5
def f33_c7 : MC := .seq f33_c1 f33_c6
def f33_r8 : List MO := [
(Qa (Qu 11) (Qf 1 (Qm 2))),
(Qa (Qu 12) (Qe 1 false (Qm 11))),
(Qa (Qu 13) (Qc (Qm 1))),
(Qa (Qu 14) (Qi 6 (Qm 12) (Qm 13))),
(Qa (Qu 15) (Qe 6 true (Qm 14))),
(Qa (Qu 16) (Qf 1 (Qm 2))),
(Qa (Qu 17) (Qe 1 false (Qm 16))),
(Qa (Qu 18) (Qj Qs (Qm 17))),
(Qa (Qu 19) (MOp.build [(Qq Qt 0), (Qq Qt 0), (Qq Qt 0), (D.str (ByteArray.mk #[])), (D.sl []), (D.sl []), (Qq Qt 0)] [(0, (6, (Qm 15))), (6, (1, (Qm 18)))])),
(Qa none (Qk 7 (Qm 4) (Qm 19))),
(Qa (Qu 5) (Qc (Qn (Qo (Qp (Qq Qt 0))))))]
def f33_c8 : MC := .reg true f33_r8
def f33_c9 : MC := MC.ret
def f33_c10 : MC := .seq f33_c8 f33_c9
def f33_c11 : MC := .seq f33_c7 f33_c10
def f33_c12 : MC := .seq f33_c0 f33_c11
noncomputable def f33_code : Code := (Go.Proofs.Tryd.f33.body).getD .skip
theorem f33_body : Go.Proofs.Tryd.f33.body = Qu f33_code := by kernel_rfl
theorem f33_tr : trC Go.Proofs.Tryd.prog [2] f33_code = Qu f33_c12 := by kernel_rfl
theorem f33_rs : rsOf Go.Proofs.Tryd.prog Go.Proofs.Tryd.f33.results.toList = Qu [(RV.cell 4 7 true), (RV.t 5)] := by kernel_rfl
theorem f33_nt : Go.Proofs.Tryd.f33.ntmps = 20 := by kernel_rfl
theorem f33_ok : callable Go.Proofs.Tryd.prog 33 = true := by kernel_rfl
theorem f33_in {gp : Heap} {args : List V} {res : V} (h : G ⟨Go.Proofs.Tryd.prog, gp, 0, [(RV.cell 4 7 true), (RV.t 5)], fun r c => r = res ∧ c = [], false⟩ [.code f33_c12, .fin] ⟨args ++ List.replicate (20 - args.length) .un, []⟩) : Does Go.Proofs.Tryd.prog gp 33 args res :=
  does_intro f33_ok Go.Proofs.Tryd.func33 f33_body f33_tr f33_rs (by rw [f33_nt]; exact h)
theorem f33_tri {gp : Heap} {args : List V} {pre : List Ch} {R : V → List Ch → Prop} (h : G ⟨Go.Proofs.Tryd.prog, gp, pre.length, [(RV.cell 4 7 true), (RV.t 5)], R, false⟩ [.code f33_c12, .fin] ⟨args ++ List.replicate (20 - args.length) .un, pre⟩) : Tri Go.Proofs.Tryd.prog gp 33 args pre R :=
  tri_intro Go.Proofs.Tryd.func33 f33_body f33_tr f33_rs (by rw [f33_nt]; exact h)

/-! (sigillary/arena.view).pairs -/
def f34_r0 : List MO := [
(Qa (Qu 1) (MOp.ibox (Qm 0))),
(Qa (Qu 2) (Qc (Qn (Qo A.nil))))]
def f34_c0 : MC := .reg false f34_r0
def f34_r1 : List MO := [
(Qa (Qu 6) (Qf 0 (Qm 1))),
(Qa (Qu 7) (Qf 0 (Qm 6))),
(Qa (Qu 8) (Qe 1 false (Qm 7))),
(Qa (Qu 9) (Qd Qs Go.BinOp.neq (Qm 8) (Qn (Qo (Qp (Qq Qt 2)))))),
(Qa (Qu 10) (Qc (Qm 9))),
(Qb 10 false (Qu 11)),
(Qa (Qu 11) (Qe 7 true (Qm 1))),
(Qb 10 false (Qu 12)),
(Qa (Qu 12) (Qg 42 [(Qm 11)])),
(Qb 10 false (Qu 13)),
(Qa (Qu 13) (MOp.not (Qm 12))),
(Qa (Qu 14) (Ql (Qm 10) (Qn (Qo (Qp (Qr true)))) (Qm 13)))]
def f34_c1 : MC := .reg false f34_r1
def f34_r2 : List MO := [
(Qa (Qu 2) (Qc (Qn (Qo A.nil))))]
def f34_c2 : MC := .reg false f34_r2
def f34_c3 : MC := MC.ret
def f34_c4 : MC := .seq f34_c2 f34_c3
def f34_c5 : MC := MC.skip
def f34_c6 : MC := .cond (Qm 14) f34_c4 f34_c5
def f34_c7 : MC := .seq f34_c1 f34_c6
def f34_r8 : List MO := [
(Qa (Qu 3) (Qc (Qn (Qo A.nil))))]
def f34_c8 : MC := .reg false f34_r8
def f34_r9 : List MO := [
(Qa (Qu 15) (Qf 0 (Qm 1))),
(Qa (Qu 16) (Qf 4 (Qm 15))),
(Qa (Qu 17) (Qe 1 false (Qm 16))),
(Qa (Qu 18) (Qj Qs (Qm 17))),
(Qa (Qu 19) (Qc (Qn (Qo (Qp (Qq Qt 0))))))]
def f34_c9 : MC := .reg false f34_r9
def f34_r10 : List MO := [
(Qa (Qu 20) (Qd Qs Go.BinOp.lss (Qm 19) (Qm 18)))]
def f34_c10 : MC := .reg false f34_r10
def f34_c11 : MC := MC.skip
def f34_c12 : MC := (MC.exit 0)
def f34_c13 : MC := .cond (Qm 20) f34_c11 f34_c12
def f34_r14 : List MO := [
(Qa (Qu 21) (Qc (Qm 19))),
(Qa (Qu 22) (Qi 3 (Qm 17) (Qm 19))),
(Qa (Qu 23) (Qe 3 true (Qm 22))),
(Qa (Qu 5) (MOp.alloc [(Qq Qt 0), (Qq Qt 0), (D.str (ByteArray.mk #[]))])),
(Qa (Qu 4) (Qc (Qm 21))),
(Qa none (Qk 3 (Qm 5) (Qm 23)))]
def f34_c14 : MC := .reg false f34_r14
def f34_r15 : List MO := [
(Qa (Qu 24) (Qc (Qm 3))),
(Qa (Qu 25) (Qe 3 true (Qm 5))),
(Qa (Qu 26) (Qf 0 (Qm 1))),
(Qa (Qu 27) (Qf 5 (Qm 26))),
(Qa (Qu 28) (Qe 1 false (Qm 27))),
(Qa (Qu 29) (Qc (Qm 4))),
(Qa (Qu 30) (Qi 1 (Qm 28) (Qm 29))),
(Qa (Qu 31) (Qe 1 false (Qm 30))),
(Qa (Qu 32) (MOp.build [(Qq Qt 0), (Qq Qt 0), (D.str (ByteArray.mk #[])), (Qq Qt 0)] [(0, (3, (Qm 25))), (3, (1, (Qm 31)))])),
(Qa (Qu 33) (MOp.bslice 4 [(Qq Qt 0), (Qq Qt 0), (D.str (ByteArray.mk #[])), (Qq Qt 0)] 1 [(0, (Qm 32))])),
(Qa (Qu 34) (MOp.app 4 40 (Qm 24) (Qm 33))),
(Qa (Qu 3) (Qc (Qm 34)))]
def f34_c15 : MC := .reg true f34_r15
def f34_c16 : MC := .seq f34_c14 f34_c15
def f34_c17 : MC := .blk 1 f34_c16
def f34_r18 : List MO := [
(Qa (Qu 35) (Qd Qs Go.BinOp.add (Qm 19) (Qn (Qo (Qp (Qq Qt 1)))))),
(Qa (Qu 19) (Qc (Qm 35)))]
def f34_c18 : MC := .reg false f34_r18
def f34_c19 : MC := .seq f34_c17 f34_c18
def f34_c20 : MC := .seq f34_c13 f34_c19
def f34_c21 : MC := .seq f34_c10 f34_c20
def f34_c22 : MC := .loop f34_c21
def f34_c23 : MC := .blk 0 f34_c22
def f34_c24 : MC := .seq f34_c9 f34_c23
def f34_r25 : List MO := [
(Qa (Qu 36) (Qc (Qm 3))),
(Qa (Qu 37) (Qg 43 [(Qm 36), (Qn (Qo (Qp (D.fn (Go.Fn.func 44) []))))]))]
def f34_c25 : MC := .reg false f34_r25
def f34_r26 : List MO := [
(Qa (Qu 38) (Qc (Qm 3))),
(Qa (Qu 2) (Qc (Qm 38)))]
def f34_c26 : MC := .reg false f34_r26
def f34_c27 : MC := MC.ret
def f34_c28 : MC := .seq f34_c26 f34_c27
def f34_c29 : MC := .seq f34_c25 f34_c28
def f34_c30 : MC := .seq f34_c24 f34_c29
def f34_c31 : MC := .seq f34_c8 f34_c30
def f34_c32 : MC := .seq f34_c7 f34_c31
def f34_c33 : MC := .seq f34_c0 f34_c32
noncomputable def f34_code : Code := (Go.Proofs.Tryd.f34.body).getD .skip
theorem f34_body : Go.Proofs.Tryd.f34.body = Qu f34_code := by kernel_rfl
theorem f34_tr : trC Go.Proofs.Tryd.prog [1] f34_code = Qu f34_c33 := by kernel_rfl
theorem f34_rs : rsOf Go.Proofs.Tryd.prog Go.Proofs.Tryd.f34.results.toList = Qu [(RV.t 2)] := by kernel_rfl
theorem f34_nt : Go.Proofs.Tryd.f34.ntmps = 39 := by kernel_rfl
theorem f34_ok : callable Go.Proofs.Tryd.prog 34 = true := by kernel_rfl
theorem f34_in {gp : Heap} {args : List V} {res : V} (h : G ⟨Go.Proofs.Tryd.prog, gp, 0, [(RV.t 2)], fun r c => r = res ∧ c = [], false⟩ [.code f34_c33, .fin] ⟨args ++ List.replicate (39 - args.length) .un, []⟩) : Does Go.Proofs.Tryd.prog gp 34 args res :=
  does_intro f34_ok Go.Proofs.Tryd.func34 f34_body f34_tr f34_rs (by rw [f34_nt]; exact h)
theorem f34_tri {gp : Heap} {args : List V} {pre : List Ch} {R : V → List Ch → Prop} (h : G ⟨Go.Proofs.Tryd.prog, gp, pre.length, [(RV.t 2)], R, false⟩ [.code f34_c33, .fin] ⟨args ++ List.replicate (39 - args.length) .un, pre⟩) : Tri Go.Proofs.Tryd.prog gp 34 args pre R :=
  tri_intro Go.Proofs.Tryd.func34 f34_body f34_tr f34_rs (by rw [f34_nt]; exact h)

/-! slices.Clone[[]int,int] -/
def f35_r0 : List MO := [
(Qa (Qu 2) (Qc (Qn (Qo A.nil))))]
def f35_c0 : MC := .reg false f35_r0
def f35_r1 : List MO := [
(Qa (Qu 3) (Qc (Qm 0))),
(Qa (Qu 4) (MOp.nilq NK.sl false (Qm 3)))]
def f35_c1 : MC := .reg false f35_r1
def f35_r2 : List MO := [
(Qa (Qu 2) (Qc (Qn (Qo A.nil))))]
def f35_c2 : MC := .reg false f35_r2
def f35_c3 : MC := MC.ret
def f35_c4 : MC := .seq f35_c2 f35_c3
def f35_c5 : MC := MC.skip
def f35_c6 : MC := .cond (Qm 4) f35_c4 f35_c5
def f35_c7 : MC := .seq f35_c1 f35_c6
def f35_r8 : List MO := [
(Qa (Qu 5) (MOp.bslO 1 [(Qq Qt 0)] 0 [])),
(Qa (Qu 6) (Qc (Qm 0))),
(Qa (Qu 7) (MOp.app 1 8 (Qm 5) (Qm 6))),
(Qa (Qu 2) (Qc (Qm 7)))]
def f35_c8 : MC := .reg false f35_r8
def f35_c9 : MC := MC.ret
def f35_c10 : MC := .seq f35_c8 f35_c9
def f35_c11 : MC := .seq f35_c7 f35_c10
def f35_c12 : MC := .seq f35_c0 f35_c11
noncomputable def f35_code : Code := (Go.Proofs.Tryd.f35.body).getD .skip
theorem f35_body : Go.Proofs.Tryd.f35.body = Qu f35_code := by kernel_rfl
theorem f35_tr : trC Go.Proofs.Tryd.prog [5] f35_code = Qu f35_c12 := by kernel_rfl
theorem f35_rs : rsOf Go.Proofs.Tryd.prog Go.Proofs.Tryd.f35.results.toList = Qu [(RV.t 2)] := by kernel_rfl
theorem f35_nt : Go.Proofs.Tryd.f35.ntmps = 8 := by kernel_rfl
theorem f35_ok : callable Go.Proofs.Tryd.prog 35 = true := by kernel_rfl
theorem f35_in {gp : Heap} {args : List V} {res : V} (h : G ⟨Go.Proofs.Tryd.prog, gp, 0, [(RV.t 2)], fun r c => r = res ∧ c = [], false⟩ [.code f35_c12, .fin] ⟨args ++ List.replicate (8 - args.length) .un, []⟩) : Does Go.Proofs.Tryd.prog gp 35 args res :=
  does_intro f35_ok Go.Proofs.Tryd.func35 f35_body f35_tr f35_rs (by rw [f35_nt]; exact h)
theorem f35_tri {gp : Heap} {args : List V} {pre : List Ch} {R : V → List Ch → Prop} (h : G ⟨Go.Proofs.Tryd.prog, gp, pre.length, [(RV.t 2)], R, false⟩ [.code f35_c12, .fin] ⟨args ++ List.replicate (8 - args.length) .un, pre⟩) : Tri Go.Proofs.Tryd.prog gp 35 args pre R :=
  tri_intro Go.Proofs.Tryd.func35 f35_body f35_tr f35_rs (by rw [f35_nt]; exact h)

/-! sigillary/sigillarylaw06.cut -/
def f36_r0 : List MO := [
(Qa (Qu 2) (Qc (Qn (Qo (Qp (D.str (ByteArray.mk #[])))))))]
def f36_c0 : MC := .reg false f36_r0
def f36_r1 : List MO := [
(Qa (Qu 3) (Qc (Qm 0))),
(Qa (Qu 4) (Qc (Qm 0))),
(Qa (Qu 5) (Qj Leaf.s (Qm 4))),
(Qa (Qu 6) (MOp.min (Qm 5) (Qn (Qo (Qp (Qq Qt 100)))))),
(Qa (Qu 7) (MOp.slcS (Qm 3) none (Qu (Qm 6)))),
(Qa (Qu 2) (Qc (Qm 7)))]
def f36_c1 : MC := .reg false f36_r1
def f36_c2 : MC := MC.ret
def f36_c3 : MC := .seq f36_c1 f36_c2
def f36_c4 : MC := .seq f36_c0 f36_c3
noncomputable def f36_code : Code := (Go.Proofs.Tryd.f36.body).getD .skip
theorem f36_body : Go.Proofs.Tryd.f36.body = Qu f36_code := by kernel_rfl
theorem f36_tr : trC Go.Proofs.Tryd.prog [] f36_code = Qu f36_c4 := by kernel_rfl
theorem f36_rs : rsOf Go.Proofs.Tryd.prog Go.Proofs.Tryd.f36.results.toList = Qu [(RV.t 2)] := by kernel_rfl
theorem f36_nt : Go.Proofs.Tryd.f36.ntmps = 8 := by kernel_rfl
theorem f36_ok : callable Go.Proofs.Tryd.prog 36 = true := by kernel_rfl
theorem f36_in {gp : Heap} {args : List V} {res : V} (h : G ⟨Go.Proofs.Tryd.prog, gp, 0, [(RV.t 2)], fun r c => r = res ∧ c = [], false⟩ [.code f36_c4, .fin] ⟨args ++ List.replicate (8 - args.length) .un, []⟩) : Does Go.Proofs.Tryd.prog gp 36 args res :=
  does_intro f36_ok Go.Proofs.Tryd.func36 f36_body f36_tr f36_rs (by rw [f36_nt]; exact h)
theorem f36_tri {gp : Heap} {args : List V} {pre : List Ch} {R : V → List Ch → Prop} (h : G ⟨Go.Proofs.Tryd.prog, gp, pre.length, [(RV.t 2)], R, false⟩ [.code f36_c4, .fin] ⟨args ++ List.replicate (8 - args.length) .un, pre⟩) : Tri Go.Proofs.Tryd.prog gp 36 args pre R :=
  tri_intro Go.Proofs.Tryd.func36 f36_body f36_tr f36_rs (by rw [f36_nt]; exact h)

/-! sigillary/arena.isPlace -/
def f39_r0 : List MO := [
(Qa (Qu 2) (MOp.ibox (Qm 0))),
(Qa (Qu 4) (Qc (Qn (Qo (Qp (Qr false))))))]
def f39_c0 : MC := .reg false f39_r0
def f39_r1 : List MO := [
(Qa (Qu 5) (Qc (Qm 1))),
(Qa (Qu 6) (Qd Qs Go.BinOp.geq (Qm 5) (Qn (Qo (Qp (Qq Qt 0)))))),
(Qa (Qu 7) (Qc (Qm 6))),
(Qb 7 true (Qu 8)),
(Qa (Qu 8) (Qc (Qm 1))),
(Qb 7 true (Qu 9)),
(Qa (Qu 9) (Qf 1 (Qm 2))),
(Qb 7 true (Qu 10)),
(Qa (Qu 10) (Qe 1 false (Qm 9))),
(Qb 7 true (Qu 11)),
(Qa (Qu 11) (Qj Qs (Qm 10))),
(Qb 7 true (Qu 12)),
(Qa (Qu 12) (Qd Qs Go.BinOp.lss (Qm 8) (Qm 11))),
(Qa (Qu 13) (Ql (Qm 7) (Qm 12) (Qn (Qo (Qp (Qr false)))))),
(Qa (Qu 4) (Qc (Qm 13)))]
def f39_c1 : MC := .reg false f39_r1
def f39_c2 : MC := MC.ret
def f39_c3 : MC := .seq f39_c1 f39_c2
def f39_c4 : MC := .seq f39_c0 f39_c3
noncomputable def f39_code : Code := (Go.Proofs.Tryd.f39.body).getD .skip
theorem f39_body : Go.Proofs.Tryd.f39.body = Qu f39_code := by kernel_rfl
theorem f39_tr : trC Go.Proofs.Tryd.prog [2] f39_code = Qu f39_c4 := by kernel_rfl
theorem f39_rs : rsOf Go.Proofs.Tryd.prog Go.Proofs.Tryd.f39.results.toList = Qu [(RV.t 4)] := by kernel_rfl
theorem f39_nt : Go.Proofs.Tryd.f39.ntmps = 14 := by kernel_rfl
theorem f39_ok : callable Go.Proofs.Tryd.prog 39 = true := by kernel_rfl
theorem f39_in {gp : Heap} {args : List V} {res : V} (h : G ⟨Go.Proofs.Tryd.prog, gp, 0, [(RV.t 4)], fun r c => r = res ∧ c = [], false⟩ [.code f39_c4, .fin] ⟨args ++ List.replicate (14 - args.length) .un, []⟩) : Does Go.Proofs.Tryd.prog gp 39 args res :=
  does_intro f39_ok Go.Proofs.Tryd.func39 f39_body f39_tr f39_rs (by rw [f39_nt]; exact h)
theorem f39_tri {gp : Heap} {args : List V} {pre : List Ch} {R : V → List Ch → Prop} (h : G ⟨Go.Proofs.Tryd.prog, gp, pre.length, [(RV.t 4)], R, false⟩ [.code f39_c4, .fin] ⟨args ++ List.replicate (14 - args.length) .un, pre⟩) : Tri Go.Proofs.Tryd.prog gp 39 args pre R :=
  tri_intro Go.Proofs.Tryd.func39 f39_body f39_tr f39_rs (by rw [f39_nt]; exact h)

/-! sigillary/arena.views -/
def f40_r0 : List MO := [
(Qa (Qu 1) (MOp.ibox (Qm 0))),
(Qa (Qu 2) (Qc (Qn (Qo (Qp D.nilF)))))]
def f40_c0 : MC := .reg false f40_r0
def f40_r1 : List MO := [
(Qa (Qu 3) (MOp.mkF (Go.Fn.func 52) [(Qm 1)])),
(Qa (Qu 2) (Qc (Qm 3)))]
def f40_c1 : MC := .reg false f40_r1
def f40_c2 : MC := MC.ret
def f40_c3 : MC := .seq f40_c1 f40_c2
def f40_c4 : MC := .seq f40_c0 f40_c3
noncomputable def f40_code : Code := (Go.Proofs.Tryd.f40.body).getD .skip
theorem f40_body : Go.Proofs.Tryd.f40.body = Qu f40_code := by kernel_rfl
theorem f40_tr : trC Go.Proofs.Tryd.prog [1] f40_code = Qu f40_c4 := by kernel_rfl
theorem f40_rs : rsOf Go.Proofs.Tryd.prog Go.Proofs.Tryd.f40.results.toList = Qu [(RV.t 2)] := by kernel_rfl
theorem f40_nt : Go.Proofs.Tryd.f40.ntmps = 4 := by kernel_rfl
theorem f40_ok : callable Go.Proofs.Tryd.prog 40 = true := by kernel_rfl
theorem f40_in {gp : Heap} {args : List V} {res : V} (h : G ⟨Go.Proofs.Tryd.prog, gp, 0, [(RV.t 2)], fun r c => r = res ∧ c = [], false⟩ [.code f40_c4, .fin] ⟨args ++ List.replicate (4 - args.length) .un, []⟩) : Does Go.Proofs.Tryd.prog gp 40 args res :=
  does_intro f40_ok Go.Proofs.Tryd.func40 f40_body f40_tr f40_rs (by rw [f40_nt]; exact h)
theorem f40_tri {gp : Heap} {args : List V} {pre : List Ch} {R : V → List Ch → Prop} (h : G ⟨Go.Proofs.Tryd.prog, gp, pre.length, [(RV.t 2)], R, false⟩ [.code f40_c4, .fin] ⟨args ++ List.replicate (4 - args.length) .un, pre⟩) : Tri Go.Proofs.Tryd.prog gp 40 args pre R :=
  tri_intro Go.Proofs.Tryd.func40 f40_body f40_tr f40_rs (by rw [f40_nt]; exact h)

/-! (sigillary/arena.view).isRight -/
def f41_r0 : List MO := [
(Qa (Qu 1) (MOp.ibox (Qm 0))),
(Qa (Qu 2) (Qc (Qn (Qo (Qp (Qr false))))))]
def f41_c0 : MC := .reg false f41_r0
def f41_r1 : List MO := [
(Qa (Qu 4) (MOp.build [D.nilF, D.nilF, D.nilF] [(0, (1, (Qn (Qo (Qp (D.fn (Go.Fn.func 53) [])))))), (1, (1, (Qn (Qo (Qp (D.fn (Go.Fn.func 54) [])))))), (2, (1, (Qn (Qo (Qp (D.fn (Go.Fn.func 55) []))))))])),
(Qa (Qu 3) (MOp.alloc [D.nilF, D.nilF, D.nilF])),
(Qa none (Qk 3 (Qm 3) (Qm 4)))]
def f41_c1 : MC := .reg false f41_r1
def f41_r2 : List MO := [
(Qa (Qu 5) (Qf 0 (Qm 1))),
(Qa (Qu 6) (Qf 0 (Qm 5))),
(Qa (Qu 7) (Qe 1 false (Qm 6))),
(Qa (Qu 8) (Qd Qs Go.BinOp.geq (Qm 7) (Qn (Qo (Qp (Qq Qt 0)))))),
(Qa (Qu 9) (Qc (Qm 8))),
(Qb 9 true (Qu 10)),
(Qa (Qu 10) (Qf 0 (Qm 1))),
(Qb 9 true (Qu 11)),
(Qa (Qu 11) (Qf 0 (Qm 10))),
(Qb 9 true (Qu 12)),
(Qa (Qu 12) (Qe 1 false (Qm 11))),
(Qb 9 true (Qu 13)),
(Qa (Qu 13) (Qd Qs Go.BinOp.lss (Qm 12) (Qn (Qo (Qp (Qq Qt 3)))))),
(Qa (Qu 14) (Ql (Qm 9) (Qm 13) (Qn (Qo (Qp (Qr false)))))),
(Qa (Qu 15) (Qc (Qm 14))),
(Qb 15 true (Qu 16)),
(Qa (Qu 16) (Qf 0 (Qm 1))),
(Qb 15 true (Qu 17)),
(Qa (Qu 17) (Qf 0 (Qm 16))),
(Qb 15 true (Qu 18)),
(Qa (Qu 18) (Qe 1 false (Qm 17))),
(Qb 15 true (Qu 19)),
(Qa (Qu 19) (MOp.iadA 3 1 (Qm 3) (Qm 18))),
(Qb 15 true (Qu 20)),
(Qa (Qu 20) (Qe 1 false (Qm 19))),
(Qb 15 true (Qu 21)),
(Qa (Qu 21) (Qe 7 true (Qm 1))),
(Qb 15 true (Qu 22)),
(Qa (Qu 22) (MOp.callv (Qm 20) [(Qm 21)])),
(Qa (Qu 23) (Ql (Qm 15) (Qm 22) (Qn (Qo (Qp (Qr false)))))),
(Qa (Qu 2) (Qc (Qm 23)))]
def f41_c2 : MC := .reg true f41_r2
def f41_c3 : MC := MC.ret
def f41_c4 : MC := .seq f41_c2 f41_c3
def f41_c5 : MC := .seq f41_c1 f41_c4
def f41_c6 : MC := .seq f41_c0 f41_c5
noncomputable def f41_code : Code := (Go.Proofs.Tryd.f41.body).getD .skip
theorem f41_body : Go.Proofs.Tryd.f41.body = Qu f41_code := by kernel_rfl
theorem f41_tr : trC Go.Proofs.Tryd.prog [1] f41_code = Qu f41_c6 := by kernel_rfl
theorem f41_rs : rsOf Go.Proofs.Tryd.prog Go.Proofs.Tryd.f41.results.toList = Qu [(RV.t 2)] := by kernel_rfl
theorem f41_nt : Go.Proofs.Tryd.f41.ntmps = 24 := by kernel_rfl
theorem f41_ok : callable Go.Proofs.Tryd.prog 41 = true := by kernel_rfl
theorem f41_in {gp : Heap} {args : List V} {res : V} (h : G ⟨Go.Proofs.Tryd.prog, gp, 0, [(RV.t 2)], fun r c => r = res ∧ c = [], false⟩ [.code f41_c6, .fin] ⟨args ++ List.replicate (24 - args.length) .un, []⟩) : Does Go.Proofs.Tryd.prog gp 41 args res :=
  does_intro f41_ok Go.Proofs.Tryd.func41 f41_body f41_tr f41_rs (by rw [f41_nt]; exact h)
theorem f41_tri {gp : Heap} {args : List V} {pre : List Ch} {R : V → List Ch → Prop} (h : G ⟨Go.Proofs.Tryd.prog, gp, pre.length, [(RV.t 2)], R, false⟩ [.code f41_c6, .fin] ⟨args ++ List.replicate (24 - args.length) .un, pre⟩) : Tri Go.Proofs.Tryd.prog gp 41 args pre R :=
  tri_intro Go.Proofs.Tryd.func41 f41_body f41_tr f41_rs (by rw [f41_nt]; exact h)

/-! (sigillary/arena.view).isPaired -/
def f42_r0 : List MO := [
(Qa (Qu 1) (MOp.ibox (Qm 0))),
(Qa (Qu 2) (Qc (Qn (Qo (Qp (Qr false))))))]
def f42_c0 : MC := .reg false f42_r0
def f42_r1 : List MO := [
(Qa (Qu 3) (Qf 0 (Qm 1))),
(Qa (Qu 4) (Qf 4 (Qm 3))),
(Qa (Qu 5) (Qe 1 false (Qm 4))),
(Qa (Qu 6) (Qj Qs (Qm 5))),
(Qa (Qu 7) (Qf 0 (Qm 1))),
(Qa (Qu 8) (Qf 5 (Qm 7))),
(Qa (Qu 9) (Qe 1 false (Qm 8))),
(Qa (Qu 10) (Qj Qs (Qm 9))),
(Qa (Qu 11) (Qd Qs Go.BinOp.eql (Qm 6) (Qm 10))),
(Qa (Qu 2) (Qc (Qm 11)))]
def f42_c1 : MC := .reg false f42_r1
def f42_c2 : MC := MC.ret
def f42_c3 : MC := .seq f42_c1 f42_c2
def f42_c4 : MC := .seq f42_c0 f42_c3
noncomputable def f42_code : Code := (Go.Proofs.Tryd.f42.body).getD .skip
theorem f42_body : Go.Proofs.Tryd.f42.body = Qu f42_code := by kernel_rfl
theorem f42_tr : trC Go.Proofs.Tryd.prog [1] f42_code = Qu f42_c4 := by kernel_rfl
theorem f42_rs : rsOf Go.Proofs.Tryd.prog Go.Proofs.Tryd.f42.results.toList = Qu [(RV.t 2)] := by kernel_rfl
theorem f42_nt : Go.Proofs.Tryd.f42.ntmps = 12 := by kernel_rfl
theorem f42_ok : callable Go.Proofs.Tryd.prog 42 = true := by kernel_rfl
theorem f42_in {gp : Heap} {args : List V} {res : V} (h : G ⟨Go.Proofs.Tryd.prog, gp, 0, [(RV.t 2)], fun r c => r = res ∧ c = [], false⟩ [.code f42_c4, .fin] ⟨args ++ List.replicate (12 - args.length) .un, []⟩) : Does Go.Proofs.Tryd.prog gp 42 args res :=
  does_intro f42_ok Go.Proofs.Tryd.func42 f42_body f42_tr f42_rs (by rw [f42_nt]; exact h)
theorem f42_tri {gp : Heap} {args : List V} {pre : List Ch} {R : V → List Ch → Prop} (h : G ⟨Go.Proofs.Tryd.prog, gp, pre.length, [(RV.t 2)], R, false⟩ [.code f42_c4, .fin] ⟨args ++ List.replicate (12 - args.length) .un, pre⟩) : Tri Go.Proofs.Tryd.prog gp 42 args pre R :=
  tri_intro Go.Proofs.Tryd.func42 f42_body f42_tr f42_rs (by rw [f42_nt]; exact h)

/-! slices.SortStableFunc[[]sigillary/arena.pair,sigillary/arena.pair] -/
def f43_r0 : List MO := [
(Qa (Qu 4) (Qc (Qm 0))),
(Qa (Qu 5) (Qc (Qm 0))),
(Qa (Qu 6) (Qj Qs (Qm 5))),
(Qa (Qu 7) (Qc (Qm 1))),
(Qa (Qu 8) (Qg 56 [(Qm 4), (Qm 6), (Qm 7)]))]
def f43_c0 : MC := .reg false f43_r0
noncomputable def f43_code : Code := (Go.Proofs.Tryd.f43.body).getD .skip
theorem f43_body : Go.Proofs.Tryd.f43.body = Qu f43_code := by kernel_rfl
theorem f43_tr : trC Go.Proofs.Tryd.prog [] f43_code = Qu f43_c0 := by kernel_rfl
theorem f43_rs : rsOf Go.Proofs.Tryd.prog Go.Proofs.Tryd.f43.results.toList = Qu [] := by kernel_rfl
theorem f43_nt : Go.Proofs.Tryd.f43.ntmps = 9 := by kernel_rfl
theorem f43_ok : callable Go.Proofs.Tryd.prog 43 = true := by kernel_rfl
theorem f43_in {gp : Heap} {args : List V} {res : V} (h : G ⟨Go.Proofs.Tryd.prog, gp, 0, [], fun r c => r = res ∧ c = [], false⟩ [.code f43_c0, .fin] ⟨args ++ List.replicate (9 - args.length) .un, []⟩) : Does Go.Proofs.Tryd.prog gp 43 args res :=
  does_intro f43_ok Go.Proofs.Tryd.func43 f43_body f43_tr f43_rs (by rw [f43_nt]; exact h)
theorem f43_tri {gp : Heap} {args : List V} {pre : List Ch} {R : V → List Ch → Prop} (h : G ⟨Go.Proofs.Tryd.prog, gp, pre.length, [], R, false⟩ [.code f43_c0, .fin] ⟨args ++ List.replicate (9 - args.length) .un, pre⟩) : Tri Go.Proofs.Tryd.prog gp 43 args pre R :=
  tri_intro Go.Proofs.Tryd.func43 f43_body f43_tr f43_rs (by rw [f43_nt]; exact h)

/-! (sigillary/arena.view).pairs$1 -/
def f44_r0 : List MO := [
(Qa (Qu 2) (MOp.ibox (Qm 0))),
(Qa (Qu 3) (MOp.ibox (Qm 1))),
(Qa (Qu 4) (Qc (Qn (Qo (Qp (Qq Qt 0))))))]
def f44_c0 : MC := .reg false f44_r0
def f44_r1 : List MO := [
(Qa (Qu 5) (Qf 0 (Qm 2))),
(Qa (Qu 6) (Qe 3 true (Qm 5))),
(Qa (Qu 7) (Qf 0 (Qm 3))),
(Qa (Qu 8) (Qe 3 true (Qm 7))),
(Qa (Qu 9) (Qg 45 [(Qm 6), (Qm 8)])),
(Qa (Qu 4) (Qc (Qm 9)))]
def f44_c1 : MC := .reg false f44_r1
def f44_c2 : MC := MC.ret
def f44_c3 : MC := .seq f44_c1 f44_c2
def f44_c4 : MC := .seq f44_c0 f44_c3
noncomputable def f44_code : Code := (Go.Proofs.Tryd.f44.body).getD .skip
theorem f44_body : Go.Proofs.Tryd.f44.body = Qu f44_code := by kernel_rfl
theorem f44_tr : trC Go.Proofs.Tryd.prog [2, 3] f44_code = Qu f44_c4 := by kernel_rfl
theorem f44_rs : rsOf Go.Proofs.Tryd.prog Go.Proofs.Tryd.f44.results.toList = Qu [(RV.t 4)] := by kernel_rfl
theorem f44_nt : Go.Proofs.Tryd.f44.ntmps = 10 := by kernel_rfl
theorem f44_ok : callable Go.Proofs.Tryd.prog 44 = true := by kernel_rfl
theorem f44_in {gp : Heap} {args : List V} {res : V} (h : G ⟨Go.Proofs.Tryd.prog, gp, 0, [(RV.t 4)], fun r c => r = res ∧ c = [], false⟩ [.code f44_c4, .fin] ⟨args ++ List.replicate (10 - args.length) .un, []⟩) : Does Go.Proofs.Tryd.prog gp 44 args res :=
  does_intro f44_ok Go.Proofs.Tryd.func44 f44_body f44_tr f44_rs (by rw [f44_nt]; exact h)
theorem f44_tri {gp : Heap} {args : List V} {pre : List Ch} {R : V → List Ch → Prop} (h : G ⟨Go.Proofs.Tryd.prog, gp, pre.length, [(RV.t 4)], R, false⟩ [.code f44_c4, .fin] ⟨args ++ List.replicate (10 - args.length) .un, pre⟩) : Tri Go.Proofs.Tryd.prog gp 44 args pre R :=
  tri_intro Go.Proofs.Tryd.func44 f44_body f44_tr f44_rs (by rw [f44_nt]; exact h)

/-! sigillary/scal.Compare -/
def f45_r0 : List MO := [
(Qa (Qu 2) (MOp.ibox (Qm 0))),
(Qa (Qu 3) (MOp.ibox (Qm 1))),
(Qa (Qu 4) (Qc (Qn (Qo (Qp (Qq Qt 0))))))]
def f45_c0 : MC := .reg false f45_r0
def f45_r1 : List MO := [
(Qa (Qu 5) (Qe 3 true (Qm 2))),
(Qa (Qu 6) (Qe 3 true (Qm 3))),
(Qa (Qu 7) (MOp.eqs false [Qs, Qs, Leaf.s] (Qm 5) (Qm 6)))]
def f45_c1 : MC := .reg false f45_r1
def f45_r2 : List MO := [
(Qa (Qu 4) (Qc (Qn (Qo (Qp (Qq Qt 0))))))]
def f45_c2 : MC := .reg false f45_r2
def f45_c3 : MC := MC.ret
def f45_c4 : MC := .seq f45_c2 f45_c3
def f45_c5 : MC := MC.skip
def f45_c6 : MC := .cond (Qm 7) f45_c4 f45_c5
def f45_c7 : MC := .seq f45_c1 f45_c6
def f45_r8 : List MO := [
(Qa (Qu 8) (Qf 0 (Qm 2))),
(Qa (Qu 9) (Qe 1 false (Qm 8))),
(Qa (Qu 10) (Qf 0 (Qm 3))),
(Qa (Qu 11) (Qe 1 false (Qm 10))),
(Qa (Qu 12) (Qg 58 [(Qm 9), (Qm 11)])),
(Qa (Qu 13) (Qf 1 (Qm 2))),
(Qa (Qu 14) (Qe 1 false (Qm 13))),
(Qa (Qu 15) (Qf 1 (Qm 3))),
(Qa (Qu 16) (Qe 1 false (Qm 15))),
(Qa (Qu 17) (Qg 58 [(Qm 14), (Qm 16)])),
(Qa (Qu 18) (Qf 2 (Qm 2))),
(Qa (Qu 19) (Qe 1 false (Qm 18))),
(Qa (Qu 20) (Qf 2 (Qm 3))),
(Qa (Qu 21) (Qe 1 false (Qm 20))),
(Qa (Qu 22) (Qg 59 [(Qm 19), (Qm 21)])),
(Qa (Qu 23) (MOp.bslice 1 [(Qq Qt 0)] 3 [(0, (Qm 12)), (1, (Qm 17)), (2, (Qm 22))])),
(Qa (Qu 24) (Qg 57 [(Qm 23)])),
(Qa (Qu 4) (Qc (Qm 24)))]
def f45_c8 : MC := .reg true f45_r8
def f45_c9 : MC := MC.ret
def f45_c10 : MC := .seq f45_c8 f45_c9
def f45_c11 : MC := .seq f45_c7 f45_c10
def f45_c12 : MC := .seq f45_c0 f45_c11
noncomputable def f45_code : Code := (Go.Proofs.Tryd.f45.body).getD .skip
theorem f45_body : Go.Proofs.Tryd.f45.body = Qu f45_code := by kernel_rfl
theorem f45_tr : trC Go.Proofs.Tryd.prog [2, 3] f45_code = Qu f45_c12 := by kernel_rfl
theorem f45_rs : rsOf Go.Proofs.Tryd.prog Go.Proofs.Tryd.f45.results.toList = Qu [(RV.t 4)] := by kernel_rfl
theorem f45_nt : Go.Proofs.Tryd.f45.ntmps = 25 := by kernel_rfl
theorem f45_ok : callable Go.Proofs.Tryd.prog 45 = true := by kernel_rfl
theorem f45_in {gp : Heap} {args : List V} {res : V} (h : G ⟨Go.Proofs.Tryd.prog, gp, 0, [(RV.t 4)], fun r c => r = res ∧ c = [], false⟩ [.code f45_c12, .fin] ⟨args ++ List.replicate (25 - args.length) .un, []⟩) : Does Go.Proofs.Tryd.prog gp 45 args res :=
  does_intro f45_ok Go.Proofs.Tryd.func45 f45_body f45_tr f45_rs (by rw [f45_nt]; exact h)
theorem f45_tri {gp : Heap} {args : List V} {pre : List Ch} {R : V → List Ch → Prop} (h : G ⟨Go.Proofs.Tryd.prog, gp, pre.length, [(RV.t 4)], R, false⟩ [.code f45_c12, .fin] ⟨args ++ List.replicate (25 - args.length) .un, pre⟩) : Tri Go.Proofs.Tryd.prog gp 45 args pre R :=
  tri_intro Go.Proofs.Tryd.func45 f45_body f45_tr f45_rs (by rw [f45_nt]; exact h)

/-! sigillary/arena.views$1 -/
def f52_c0 : MC := MC.skip
def f52_r1 : List MO := [
(Qa (Qu 5) (Qf 1 (Qm 1))),
(Qa (Qu 6) (Qe 1 false (Qm 5))),
(Qa (Qu 7) (Qj Qs (Qm 6))),
(Qa (Qu 8) (Qc (Qn (Qo (Qp (Qq Qt 0))))))]
def f52_c1 : MC := .reg false f52_r1
def f52_r2 : List MO := [
(Qa (Qu 9) (Qd Qs Go.BinOp.lss (Qm 8) (Qm 7)))]
def f52_c2 : MC := .reg false f52_r2
def f52_c3 : MC := MC.skip
def f52_c4 : MC := (MC.exit 0)
def f52_c5 : MC := .cond (Qm 9) f52_c3 f52_c4
def f52_r6 : List MO := [
(Qa (Qu 10) (Qc (Qm 8))),
(Qa (Qu 11) (Qi 6 (Qm 6) (Qm 8))),
(Qa (Qu 12) (Qe 6 true (Qm 11))),
(Qa (Qu 4) (MOp.alloc [(Qq Qt 0), (Qq Qt 0), (Qq Qt 0), (D.str (ByteArray.mk #[])), (D.sl []), (D.sl [])])),
(Qa (Qu 3) (Qc (Qm 10))),
(Qa none (Qk 6 (Qm 4) (Qm 12)))]
def f52_c6 : MC := .reg false f52_r6
def f52_r7 : List MO := [
(Qa (Qu 13) (Qc (Qm 0))),
(Qa (Qu 14) (Qc (Qm 3))),
(Qa (Qu 15) (Qe 6 true (Qm 4))),
(Qa (Qu 16) (Qf 1 (Qm 1))),
(Qa (Qu 17) (Qe 1 false (Qm 16))),
(Qa (Qu 18) (Qj Qs (Qm 17))),
(Qa (Qu 19) (MOp.build [(Qq Qt 0), (Qq Qt 0), (Qq Qt 0), (D.str (ByteArray.mk #[])), (D.sl []), (D.sl []), (Qq Qt 0)] [(0, (6, (Qm 15))), (6, (1, (Qm 18)))])),
(Qa (Qu 20) (MOp.callv (Qm 13) [(Qm 14), (Qm 19)])),
(Qa (Qu 21) (MOp.not (Qm 20)))]
def f52_c7 : MC := .reg false f52_r7
def f52_c8 : MC := (MC.exit 0)
def f52_c9 : MC := MC.skip
def f52_c10 : MC := .cond (Qm 21) f52_c8 f52_c9
def f52_c11 : MC := .seq f52_c7 f52_c10
def f52_c12 : MC := .seq f52_c6 f52_c11
def f52_c13 : MC := .blk 1 f52_c12
def f52_r14 : List MO := [
(Qa (Qu 22) (Qd Qs Go.BinOp.add (Qm 8) (Qn (Qo (Qp (Qq Qt 1)))))),
(Qa (Qu 8) (Qc (Qm 22)))]
def f52_c14 : MC := .reg false f52_r14
def f52_c15 : MC := .seq f52_c13 f52_c14
def f52_c16 : MC := .seq f52_c5 f52_c15
def f52_c17 : MC := .seq f52_c2 f52_c16
def f52_c18 : MC := .loop f52_c17
def f52_c19 : MC := .blk 0 f52_c18
def f52_c20 : MC := .seq f52_c1 f52_c19
def f52_c21 : MC := .seq f52_c0 f52_c20
def f52_c22 : MC := .scope f52_c21
noncomputable def f52_code : Code := (Go.Proofs.Tryd.f52.body).getD .skip
theorem f52_body : Go.Proofs.Tryd.f52.body = Qu f52_code := by kernel_rfl
theorem f52_tr : trC Go.Proofs.Tryd.prog [] f52_code = Qu f52_c22 := by kernel_rfl
theorem f52_rs : rsOf Go.Proofs.Tryd.prog Go.Proofs.Tryd.f52.results.toList = Qu [] := by kernel_rfl
theorem f52_nt : Go.Proofs.Tryd.f52.ntmps = 23 := by kernel_rfl
theorem f52_ok : callable Go.Proofs.Tryd.prog 52 = true := by kernel_rfl
theorem f52_in {gp : Heap} {args : List V} {res : V} (h : G ⟨Go.Proofs.Tryd.prog, gp, 0, [], fun r c => r = res ∧ c = [], false⟩ [.code f52_c22, .fin] ⟨args ++ List.replicate (23 - args.length) .un, []⟩) : Does Go.Proofs.Tryd.prog gp 52 args res :=
  does_intro f52_ok Go.Proofs.Tryd.func52 f52_body f52_tr f52_rs (by rw [f52_nt]; exact h)
theorem f52_tri {gp : Heap} {args : List V} {pre : List Ch} {R : V → List Ch → Prop} (h : G ⟨Go.Proofs.Tryd.prog, gp, pre.length, [], R, false⟩ [.code f52_c22, .fin] ⟨args ++ List.replicate (23 - args.length) .un, pre⟩) : Tri Go.Proofs.Tryd.prog gp 52 args pre R :=
  tri_intro Go.Proofs.Tryd.func52 f52_body f52_tr f52_rs (by rw [f52_nt]; exact h)

/-! (sigillary/arena.view).isOne -/
def f53_r0 : List MO := [
(Qa (Qu 1) (MOp.ibox (Qm 0))),
(Qa (Qu 2) (Qc (Qn (Qo (Qp (Qr false))))))]
def f53_c0 : MC := .reg false f53_r0
def f53_r1 : List MO := [
(Qa (Qu 3) (Qf 0 (Qm 1))),
(Qa (Qu 4) (Qf 1 (Qm 3))),
(Qa (Qu 5) (Qe 3 true (Qm 4))),
(Qa (Qu 6) (Qg 64 [(Qm 5)])),
(Qa (Qu 7) (Qf 0 (Qm 1))),
(Qa (Qu 8) (Qf 4 (Qm 7))),
(Qa (Qu 9) (Qe 1 false (Qm 8))),
(Qa (Qu 10) (Qj Qs (Qm 9))),
(Qa (Qu 11) (Qd Qs Go.BinOp.eql (Qm 10) (Qn (Qo (Qp (Qq Qt 0)))))),
(Qa (Qu 12) (Qf 0 (Qm 1))),
(Qa (Qu 13) (Qf 5 (Qm 12))),
(Qa (Qu 14) (Qe 1 false (Qm 13))),
(Qa (Qu 15) (Qj Qs (Qm 14))),
(Qa (Qu 16) (Qd Qs Go.BinOp.eql (Qm 15) (Qn (Qo (Qp (Qq Qt 0)))))),
(Qa (Qu 17) (MOp.bslice 1 [(Qr false)] 3 [(0, (Qm 6)), (1, (Qm 11)), (2, (Qm 16))])),
(Qa (Qu 18) (Qg 63 [(Qm 17)])),
(Qa (Qu 2) (Qc (Qm 18)))]
def f53_c1 : MC := .reg true f53_r1
def f53_c2 : MC := MC.ret
def f53_c3 : MC := .seq f53_c1 f53_c2
def f53_c4 : MC := .seq f53_c0 f53_c3
noncomputable def f53_code : Code := (Go.Proofs.Tryd.f53.body).getD .skip
theorem f53_body : Go.Proofs.Tryd.f53.body = Qu f53_code := by kernel_rfl
theorem f53_tr : trC Go.Proofs.Tryd.prog [1] f53_code = Qu f53_c4 := by kernel_rfl
theorem f53_rs : rsOf Go.Proofs.Tryd.prog Go.Proofs.Tryd.f53.results.toList = Qu [(RV.t 2)] := by kernel_rfl
theorem f53_nt : Go.Proofs.Tryd.f53.ntmps = 19 := by kernel_rfl
theorem f53_ok : callable Go.Proofs.Tryd.prog 53 = true := by kernel_rfl
theorem f53_in {gp : Heap} {args : List V} {res : V} (h : G ⟨Go.Proofs.Tryd.prog, gp, 0, [(RV.t 2)], fun r c => r = res ∧ c = [], false⟩ [.code f53_c4, .fin] ⟨args ++ List.replicate (19 - args.length) .un, []⟩) : Does Go.Proofs.Tryd.prog gp 53 args res :=
  does_intro f53_ok Go.Proofs.Tryd.func53 f53_body f53_tr f53_rs (by rw [f53_nt]; exact h)
theorem f53_tri {gp : Heap} {args : List V} {pre : List Ch} {R : V → List Ch → Prop} (h : G ⟨Go.Proofs.Tryd.prog, gp, pre.length, [(RV.t 2)], R, false⟩ [.code f53_c4, .fin] ⟨args ++ List.replicate (19 - args.length) .un, pre⟩) : Tri Go.Proofs.Tryd.prog gp 53 args pre R :=
  tri_intro Go.Proofs.Tryd.func53 f53_body f53_tr f53_rs (by rw [f53_nt]; exact h)

/-! (sigillary/arena.view).isSeq -/
def f54_r0 : List MO := [
(Qa (Qu 1) (MOp.ibox (Qm 0))),
(Qa (Qu 2) (Qc (Qn (Qo (Qp (Qr false))))))]
def f54_c0 : MC := .reg false f54_r0
def f54_r1 : List MO := [
(Qa (Qu 3) (Qf 0 (Qm 1))),
(Qa (Qu 4) (Qf 1 (Qm 3))),
(Qa (Qu 5) (Qe 3 true (Qm 4))),
(Qa (Qu 6) (MOp.build [(Qq Qt 0), (Qq Qt 0), (D.str (ByteArray.mk #[]))] [])),
(Qa (Qu 7) (MOp.eqs false [Qs, Qs, Leaf.s] (Qm 5) (Qm 6))),
(Qa (Qu 8) (Qf 0 (Qm 1))),
(Qa (Qu 9) (Qf 4 (Qm 8))),
(Qa (Qu 10) (Qe 1 false (Qm 9))),
(Qa (Qu 11) (Qj Qs (Qm 10))),
(Qa (Qu 12) (Qd Qs Go.BinOp.eql (Qm 11) (Qn (Qo (Qp (Qq Qt 0)))))),
(Qa (Qu 13) (Qe 7 true (Qm 1))),
(Qa (Qu 14) (Qg 65 [(Qm 13)])),
(Qa (Qu 15) (MOp.bslice 1 [(Qr false)] 3 [(0, (Qm 7)), (1, (Qm 12)), (2, (Qm 14))])),
(Qa (Qu 16) (Qg 63 [(Qm 15)])),
(Qa (Qu 2) (Qc (Qm 16)))]
def f54_c1 : MC := .reg true f54_r1
def f54_c2 : MC := MC.ret
def f54_c3 : MC := .seq f54_c1 f54_c2
def f54_c4 : MC := .seq f54_c0 f54_c3
noncomputable def f54_code : Code := (Go.Proofs.Tryd.f54.body).getD .skip
theorem f54_body : Go.Proofs.Tryd.f54.body = Qu f54_code := by kernel_rfl
theorem f54_tr : trC Go.Proofs.Tryd.prog [1] f54_code = Qu f54_c4 := by kernel_rfl
theorem f54_rs : rsOf Go.Proofs.Tryd.prog Go.Proofs.Tryd.f54.results.toList = Qu [(RV.t 2)] := by kernel_rfl
theorem f54_nt : Go.Proofs.Tryd.f54.ntmps = 17 := by kernel_rfl
theorem f54_ok : callable Go.Proofs.Tryd.prog 54 = true := by kernel_rfl
theorem f54_in {gp : Heap} {args : List V} {res : V} (h : G ⟨Go.Proofs.Tryd.prog, gp, 0, [(RV.t 2)], fun r c => r = res ∧ c = [], false⟩ [.code f54_c4, .fin] ⟨args ++ List.replicate (17 - args.length) .un, []⟩) : Does Go.Proofs.Tryd.prog gp 54 args res :=
  does_intro f54_ok Go.Proofs.Tryd.func54 f54_body f54_tr f54_rs (by rw [f54_nt]; exact h)
theorem f54_tri {gp : Heap} {args : List V} {pre : List Ch} {R : V → List Ch → Prop} (h : G ⟨Go.Proofs.Tryd.prog, gp, pre.length, [(RV.t 2)], R, false⟩ [.code f54_c4, .fin] ⟨args ++ List.replicate (17 - args.length) .un, pre⟩) : Tri Go.Proofs.Tryd.prog gp 54 args pre R :=
  tri_intro Go.Proofs.Tryd.func54 f54_body f54_tr f54_rs (by rw [f54_nt]; exact h)

/-! (sigillary/arena.view).isMap -/
def f55_r0 : List MO := [
(Qa (Qu 1) (MOp.ibox (Qm 0))),
(Qa (Qu 2) (Qc (Qn (Qo (Qp (Qr false))))))]
def f55_c0 : MC := .reg false f55_r0
def f55_r1 : List MO := [
(Qa (Qu 3) (Qf 0 (Qm 1))),
(Qa (Qu 4) (Qf 1 (Qm 3))),
(Qa (Qu 5) (Qe 3 true (Qm 4))),
(Qa (Qu 6) (MOp.build [(Qq Qt 0), (Qq Qt 0), (D.str (ByteArray.mk #[]))] [])),
(Qa (Qu 7) (MOp.eqs false [Qs, Qs, Leaf.s] (Qm 5) (Qm 6))),
(Qa (Qu 8) (Qe 7 true (Qm 1))),
(Qa (Qu 9) (Qg 42 [(Qm 8)])),
(Qa (Qu 10) (Qe 7 true (Qm 1))),
(Qa (Qu 11) (Qg 66 [(Qm 10)])),
(Qa (Qu 12) (Qe 7 true (Qm 1))),
(Qa (Qu 13) (Qg 65 [(Qm 12)])),
(Qa (Qu 14) (MOp.bslice 1 [(Qr false)] 4 [(0, (Qm 7)), (1, (Qm 9)), (2, (Qm 11)), (3, (Qm 13))])),
(Qa (Qu 15) (Qg 63 [(Qm 14)])),
(Qa (Qu 2) (Qc (Qm 15)))]
def f55_c1 : MC := .reg true f55_r1
def f55_c2 : MC := MC.ret
def f55_c3 : MC := .seq f55_c1 f55_c2
def f55_c4 : MC := .seq f55_c0 f55_c3
noncomputable def f55_code : Code := (Go.Proofs.Tryd.f55.body).getD .skip
theorem f55_body : Go.Proofs.Tryd.f55.body = Qu f55_code := by kernel_rfl
theorem f55_tr : trC Go.Proofs.Tryd.prog [1] f55_code = Qu f55_c4 := by kernel_rfl
theorem f55_rs : rsOf Go.Proofs.Tryd.prog Go.Proofs.Tryd.f55.results.toList = Qu [(RV.t 2)] := by kernel_rfl
theorem f55_nt : Go.Proofs.Tryd.f55.ntmps = 16 := by kernel_rfl
theorem f55_ok : callable Go.Proofs.Tryd.prog 55 = true := by kernel_rfl
theorem f55_in {gp : Heap} {args : List V} {res : V} (h : G ⟨Go.Proofs.Tryd.prog, gp, 0, [(RV.t 2)], fun r c => r = res ∧ c = [], false⟩ [.code f55_c4, .fin] ⟨args ++ List.replicate (16 - args.length) .un, []⟩) : Does Go.Proofs.Tryd.prog gp 55 args res :=
  does_intro f55_ok Go.Proofs.Tryd.func55 f55_body f55_tr f55_rs (by rw [f55_nt]; exact h)
theorem f55_tri {gp : Heap} {args : List V} {pre : List Ch} {R : V → List Ch → Prop} (h : G ⟨Go.Proofs.Tryd.prog, gp, pre.length, [(RV.t 2)], R, false⟩ [.code f55_c4, .fin] ⟨args ++ List.replicate (16 - args.length) .un, pre⟩) : Tri Go.Proofs.Tryd.prog gp 55 args pre R :=
  tri_intro Go.Proofs.Tryd.func55 f55_body f55_tr f55_rs (by rw [f55_nt]; exact h)

/-! slices.stableCmpFunc[sigillary/arena.pair] -/
def f56_r0 : List MO := [
(Qa (Qu 6) (Qc (Qn (Qo (Qp (Qq Qt 20))))))]
def f56_c0 : MC := .reg false f56_r0
def f56_r1 : List MO := [
(Qa (Qu 10) (Qc (Qm 6))),
(Qa (Qu 7) (Qc (Qn (Qo (Qp (Qq Qt 0)))))),
(Qa (Qu 8) (Qc (Qm 10)))]
def f56_c1 : MC := .reg false f56_r1
def f56_r2 : List MO := [
(Qa (Qu 11) (Qc (Qm 8))),
(Qa (Qu 12) (Qc (Qm 1))),
(Qa (Qu 13) (Qd Qs Go.BinOp.leq (Qm 11) (Qm 12)))]
def f56_c2 : MC := .reg false f56_r2
def f56_c3 : MC := MC.skip
def f56_c4 : MC := (MC.exit 0)
def f56_c5 : MC := .cond (Qm 13) f56_c3 f56_c4
def f56_c6 : MC := .seq f56_c2 f56_c5
def f56_r7 : List MO := [
(Qa (Qu 14) (Qc (Qm 0))),
(Qa (Qu 15) (Qc (Qm 7))),
(Qa (Qu 16) (Qc (Qm 8))),
(Qa (Qu 17) (Qc (Qm 2))),
(Qa (Qu 18) (Qg 67 [(Qm 14), (Qm 15), (Qm 16), (Qm 17)]))]
def f56_c7 : MC := .reg false f56_r7
def f56_r8 : List MO := [
(Qa (Qu 19) (Qc (Qm 8))),
(Qa (Qu 7) (Qc (Qm 19)))]
def f56_c8 : MC := .reg false f56_r8
def f56_r9 : List MO := [
(Qa (Qu 20) (Qc (Qm 8))),
(Qa (Qu 21) (Qc (Qm 6))),
(Qa (Qu 22) (Qd Qs Go.BinOp.add (Qm 20) (Qm 21))),
(Qa (Qu 8) (Qc (Qm 22)))]
def f56_c9 : MC := .reg false f56_r9
def f56_c10 : MC := .seq f56_c8 f56_c9
def f56_c11 : MC := .seq f56_c7 f56_c10
def f56_c12 : MC := .blk 1 f56_c11
def f56_c13 : MC := .seq f56_c6 f56_c12
def f56_c14 : MC := .loop f56_c13
def f56_c15 : MC := .blk 0 f56_c14
def f56_r16 : List MO := [
(Qa (Qu 23) (Qc (Qm 0))),
(Qa (Qu 24) (Qc (Qm 7))),
(Qa (Qu 25) (Qc (Qm 1))),
(Qa (Qu 26) (Qc (Qm 2))),
(Qa (Qu 27) (Qg 67 [(Qm 23), (Qm 24), (Qm 25), (Qm 26)]))]
def f56_c16 : MC := .reg false f56_r16
def f56_r17 : List MO := [
(Qa (Qu 28) (Qc (Qm 6))),
(Qa (Qu 29) (Qc (Qm 1))),
(Qa (Qu 30) (Qd Qs Go.BinOp.lss (Qm 28) (Qm 29)))]
def f56_c17 : MC := .reg false f56_r17
def f56_c18 : MC := MC.skip
def f56_c19 : MC := (MC.exit 2)
def f56_c20 : MC := .cond (Qm 30) f56_c18 f56_c19
def f56_c21 : MC := .seq f56_c17 f56_c20
def f56_r22 : List MO := [
(Qa (Qu 31) (Qc (Qm 6))),
(Qa (Qu 32) (Qd Qs Go.BinOp.mul (Qn (Qo (Qp (Qq Qt 2)))) (Qm 31))),
(Qa (Qu 7) (Qc (Qn (Qo (Qp (Qq Qt 0)))))),
(Qa (Qu 8) (Qc (Qm 32)))]
def f56_c22 : MC := .reg false f56_r22
def f56_r23 : List MO := [
(Qa (Qu 33) (Qc (Qm 8))),
(Qa (Qu 34) (Qc (Qm 1))),
(Qa (Qu 35) (Qd Qs Go.BinOp.leq (Qm 33) (Qm 34)))]
def f56_c23 : MC := .reg false f56_r23
def f56_c24 : MC := MC.skip
def f56_c25 : MC := (MC.exit 4)
def f56_c26 : MC := .cond (Qm 35) f56_c24 f56_c25
def f56_c27 : MC := .seq f56_c23 f56_c26
def f56_r28 : List MO := [
(Qa (Qu 36) (Qc (Qm 0))),
(Qa (Qu 37) (Qc (Qm 7))),
(Qa (Qu 38) (Qc (Qm 7))),
(Qa (Qu 39) (Qc (Qm 6))),
(Qa (Qu 40) (Qd Qs Go.BinOp.add (Qm 38) (Qm 39))),
(Qa (Qu 41) (Qc (Qm 8))),
(Qa (Qu 42) (Qc (Qm 2))),
(Qa (Qu 43) (Qg 68 [(Qm 36), (Qm 37), (Qm 40), (Qm 41), (Qm 42)]))]
def f56_c28 : MC := .reg false f56_r28
def f56_r29 : List MO := [
(Qa (Qu 44) (Qc (Qm 8))),
(Qa (Qu 7) (Qc (Qm 44)))]
def f56_c29 : MC := .reg false f56_r29
def f56_r30 : List MO := [
(Qa (Qu 45) (Qc (Qm 8))),
(Qa (Qu 46) (Qc (Qm 6))),
(Qa (Qu 47) (Qd Qs Go.BinOp.mul (Qn (Qo (Qp (Qq Qt 2)))) (Qm 46))),
(Qa (Qu 48) (Qd Qs Go.BinOp.add (Qm 45) (Qm 47))),
(Qa (Qu 8) (Qc (Qm 48)))]
def f56_c30 : MC := .reg false f56_r30
def f56_c31 : MC := .seq f56_c29 f56_c30
def f56_c32 : MC := .seq f56_c28 f56_c31
def f56_c33 : MC := .blk 5 f56_c32
def f56_c34 : MC := .seq f56_c27 f56_c33
def f56_c35 : MC := .loop f56_c34
def f56_c36 : MC := .blk 4 f56_c35
def f56_r37 : List MO := [
(Qa (Qu 49) (Qc (Qm 7))),
(Qa (Qu 50) (Qc (Qm 6))),
(Qa (Qu 51) (Qd Qs Go.BinOp.add (Qm 49) (Qm 50))),
(Qa (Qu 9) (Qc (Qm 51)))]
def f56_c37 : MC := .reg false f56_r37
def f56_r38 : List MO := [
(Qa (Qu 52) (Qc (Qm 9))),
(Qa (Qu 53) (Qc (Qm 1))),
(Qa (Qu 54) (Qd Qs Go.BinOp.lss (Qm 52) (Qm 53)))]
def f56_c38 : MC := .reg false f56_r38
def f56_r39 : List MO := [
(Qa (Qu 55) (Qc (Qm 0))),
(Qa (Qu 56) (Qc (Qm 7))),
(Qa (Qu 57) (Qc (Qm 9))),
(Qa (Qu 58) (Qc (Qm 1))),
(Qa (Qu 59) (Qc (Qm 2))),
(Qa (Qu 60) (Qg 68 [(Qm 55), (Qm 56), (Qm 57), (Qm 58), (Qm 59)]))]
def f56_c39 : MC := .reg false f56_r39
def f56_c40 : MC := MC.skip
def f56_c41 : MC := .cond (Qm 54) f56_c39 f56_c40
def f56_c42 : MC := .seq f56_c38 f56_c41
def f56_c43 : MC := .seq f56_c37 f56_c42
def f56_r44 : List MO := [
(Qa (Qu 61) (Qc (Qm 6))),
(Qa (Qu 62) (Qd Qs Go.BinOp.mul (Qm 61) (Qn (Qo (Qp (Qq Qt 2)))))),
(Qa (Qu 6) (Qc (Qm 62)))]
def f56_c44 : MC := .reg false f56_r44
def f56_c45 : MC := .seq f56_c43 f56_c44
def f56_c46 : MC := .seq f56_c36 f56_c45
def f56_c47 : MC := .seq f56_c22 f56_c46
def f56_c48 : MC := .blk 3 f56_c47
def f56_c49 : MC := .seq f56_c21 f56_c48
def f56_c50 : MC := .loop f56_c49
def f56_c51 : MC := .blk 2 f56_c50
def f56_c52 : MC := .seq f56_c16 f56_c51
def f56_c53 : MC := .seq f56_c15 f56_c52
def f56_c54 : MC := .seq f56_c1 f56_c53
def f56_c55 : MC := .seq f56_c0 f56_c54
noncomputable def f56_code : Code := (Go.Proofs.Tryd.f56.body).getD .skip
theorem f56_body : Go.Proofs.Tryd.f56.body = Qu f56_code := by kernel_rfl
theorem f56_tr : trC Go.Proofs.Tryd.prog [] f56_code = Qu f56_c55 := by kernel_rfl
theorem f56_rs : rsOf Go.Proofs.Tryd.prog Go.Proofs.Tryd.f56.results.toList = Qu [] := by kernel_rfl
theorem f56_nt : Go.Proofs.Tryd.f56.ntmps = 63 := by kernel_rfl
theorem f56_ok : callable Go.Proofs.Tryd.prog 56 = true := by kernel_rfl
theorem f56_in {gp : Heap} {args : List V} {res : V} (h : G ⟨Go.Proofs.Tryd.prog, gp, 0, [], fun r c => r = res ∧ c = [], false⟩ [.code f56_c55, .fin] ⟨args ++ List.replicate (63 - args.length) .un, []⟩) : Does Go.Proofs.Tryd.prog gp 56 args res :=
  does_intro f56_ok Go.Proofs.Tryd.func56 f56_body f56_tr f56_rs (by rw [f56_nt]; exact h)
theorem f56_tri {gp : Heap} {args : List V} {pre : List Ch} {R : V → List Ch → Prop} (h : G ⟨Go.Proofs.Tryd.prog, gp, pre.length, [], R, false⟩ [.code f56_c55, .fin] ⟨args ++ List.replicate (63 - args.length) .un, pre⟩) : Tri Go.Proofs.Tryd.prog gp 56 args pre R :=
  tri_intro Go.Proofs.Tryd.func56 f56_body f56_tr f56_rs (by rw [f56_nt]; exact h)

/-! cmp.Or[int] -/
def f57_r0 : List MO := [
(Qa (Qu 2) (Qc (Qn (Qo (Qp (Qq Qt 0))))))]
def f57_c0 : MC := .reg false f57_r0
def f57_r1 : List MO := [
(Qa (Qu 3) (Qc (Qn (Qo (Qp (Qq Qt 0))))))]
def f57_c1 : MC := .reg false f57_r1
def f57_r2 : List MO := [
(Qa (Qu 6) (Qc (Qm 0))),
(Qa (Qu 7) (Qj Qs (Qm 6))),
(Qa (Qu 8) (Qc (Qn (Qo (Qp (Qq Qt 0))))))]
def f57_c2 : MC := .reg false f57_r2
def f57_r3 : List MO := [
(Qa (Qu 9) (Qd Qs Go.BinOp.lss (Qm 8) (Qm 7)))]
def f57_c3 : MC := .reg false f57_r3
def f57_c4 : MC := MC.skip
def f57_c5 : MC := (MC.exit 0)
def f57_c6 : MC := .cond (Qm 9) f57_c4 f57_c5
def f57_r7 : List MO := [
(Qa (Qu 10) (Qi 1 (Qm 6) (Qm 8))),
(Qa (Qu 11) (Qe 1 false (Qm 10))),
(Qa (Qu 5) (Qc (Qm 11)))]
def f57_c7 : MC := .reg false f57_r7
def f57_r8 : List MO := [
(Qa (Qu 12) (Qc (Qm 5))),
(Qa (Qu 13) (Qc (Qm 3))),
(Qa (Qu 14) (Qd Qs Go.BinOp.neq (Qm 12) (Qm 13)))]
def f57_c8 : MC := .reg false f57_r8
def f57_r9 : List MO := [
(Qa (Qu 15) (Qc (Qm 5))),
(Qa (Qu 2) (Qc (Qm 15)))]
def f57_c9 : MC := .reg false f57_r9
def f57_c10 : MC := MC.ret
def f57_c11 : MC := .seq f57_c9 f57_c10
def f57_c12 : MC := MC.skip
def f57_c13 : MC := .cond (Qm 14) f57_c11 f57_c12
def f57_c14 : MC := .seq f57_c8 f57_c13
def f57_c15 : MC := .seq f57_c7 f57_c14
def f57_c16 : MC := .blk 1 f57_c15
def f57_r17 : List MO := [
(Qa (Qu 16) (Qd Qs Go.BinOp.add (Qm 8) (Qn (Qo (Qp (Qq Qt 1)))))),
(Qa (Qu 8) (Qc (Qm 16)))]
def f57_c17 : MC := .reg false f57_r17
def f57_c18 : MC := .seq f57_c16 f57_c17
def f57_c19 : MC := .seq f57_c6 f57_c18
def f57_c20 : MC := .seq f57_c3 f57_c19
def f57_c21 : MC := .loop f57_c20
def f57_c22 : MC := .blk 0 f57_c21
def f57_c23 : MC := .seq f57_c2 f57_c22
def f57_r24 : List MO := [
(Qa (Qu 17) (Qc (Qm 3))),
(Qa (Qu 2) (Qc (Qm 17)))]
def f57_c24 : MC := .reg false f57_r24
def f57_c25 : MC := MC.ret
def f57_c26 : MC := .seq f57_c24 f57_c25
def f57_c27 : MC := .seq f57_c23 f57_c26
def f57_c28 : MC := .seq f57_c1 f57_c27
def f57_c29 : MC := .seq f57_c0 f57_c28
noncomputable def f57_code : Code := (Go.Proofs.Tryd.f57.body).getD .skip
theorem f57_body : Go.Proofs.Tryd.f57.body = Qu f57_code := by kernel_rfl
theorem f57_tr : trC Go.Proofs.Tryd.prog [] f57_code = Qu f57_c29 := by kernel_rfl
theorem f57_rs : rsOf Go.Proofs.Tryd.prog Go.Proofs.Tryd.f57.results.toList = Qu [(RV.t 2)] := by kernel_rfl
theorem f57_nt : Go.Proofs.Tryd.f57.ntmps = 18 := by kernel_rfl
theorem f57_ok : callable Go.Proofs.Tryd.prog 57 = true := by kernel_rfl
theorem f57_in {gp : Heap} {args : List V} {res : V} (h : G ⟨Go.Proofs.Tryd.prog, gp, 0, [(RV.t 2)], fun r c => r = res ∧ c = [], false⟩ [.code f57_c29, .fin] ⟨args ++ List.replicate (18 - args.length) .un, []⟩) : Does Go.Proofs.Tryd.prog gp 57 args res :=
  does_intro f57_ok Go.Proofs.Tryd.func57 f57_body f57_tr f57_rs (by rw [f57_nt]; exact h)
theorem f57_tri {gp : Heap} {args : List V} {pre : List Ch} {R : V → List Ch → Prop} (h : G ⟨Go.Proofs.Tryd.prog, gp, pre.length, [(RV.t 2)], R, false⟩ [.code f57_c29, .fin] ⟨args ++ List.replicate (18 - args.length) .un, pre⟩) : Tri Go.Proofs.Tryd.prog gp 57 args pre R :=
  tri_intro Go.Proofs.Tryd.func57 f57_body f57_tr f57_rs (by rw [f57_nt]; exact h)

/-! cmp.Compare[int] -/
def f58_r0 : List MO := [
(Qa (Qu 4) (Qc (Qn (Qo (Qp (Qq Qt 0))))))]
def f58_c0 : MC := .reg false f58_r0
def f58_r1 : List MO := [
(Qa (Qu 7) (Qc (Qm 0))),
(Qa (Qu 8) (Qg 69 [(Qm 7)])),
(Qa (Qu 5) (Qc (Qm 8)))]
def f58_c1 : MC := .reg false f58_r1
def f58_r2 : List MO := [
(Qa (Qu 9) (Qc (Qm 1))),
(Qa (Qu 10) (Qg 69 [(Qm 9)])),
(Qa (Qu 6) (Qc (Qm 10)))]
def f58_c2 : MC := .reg false f58_r2
def f58_r3 : List MO := [
(Qa (Qu 11) (Qc (Qm 5)))]
def f58_c3 : MC := .reg false f58_r3
def f58_r4 : List MO := [
(Qa (Qu 12) (Qc (Qm 6)))]
def f58_c4 : MC := .reg false f58_r4
def f58_r5 : List MO := [
(Qa (Qu 4) (Qc (Qn (Qo (Qp (Qq Qt 0))))))]
def f58_c5 : MC := .reg false f58_r5
def f58_c6 : MC := MC.ret
def f58_c7 : MC := .seq f58_c5 f58_c6
def f58_c8 : MC := MC.skip
def f58_c9 : MC := .cond (Qm 12) f58_c7 f58_c8
def f58_c10 : MC := .seq f58_c4 f58_c9
def f58_r11 : List MO := [
(Qa (Qu 4) (Qc (Qn (Qo (Qp (Qq Qt (-1)))))))]
def f58_c11 : MC := .reg false f58_r11
def f58_c12 : MC := MC.ret
def f58_c13 : MC := .seq f58_c11 f58_c12
def f58_c14 : MC := .seq f58_c10 f58_c13
def f58_c15 : MC := MC.skip
def f58_c16 : MC := .cond (Qm 11) f58_c14 f58_c15
def f58_c17 : MC := .seq f58_c3 f58_c16
def f58_r18 : List MO := [
(Qa (Qu 13) (Qc (Qm 6)))]
def f58_c18 : MC := .reg false f58_r18
def f58_r19 : List MO := [
(Qa (Qu 4) (Qc (Qn (Qo (Qp (Qq Qt 1))))))]
def f58_c19 : MC := .reg false f58_r19
def f58_c20 : MC := MC.ret
def f58_c21 : MC := .seq f58_c19 f58_c20
def f58_c22 : MC := MC.skip
def f58_c23 : MC := .cond (Qm 13) f58_c21 f58_c22
def f58_c24 : MC := .seq f58_c18 f58_c23
def f58_r25 : List MO := [
(Qa (Qu 14) (Qc (Qm 0))),
(Qa (Qu 15) (Qc (Qm 1))),
(Qa (Qu 16) (Qd Qs Go.BinOp.lss (Qm 14) (Qm 15)))]
def f58_c25 : MC := .reg false f58_r25
def f58_r26 : List MO := [
(Qa (Qu 4) (Qc (Qn (Qo (Qp (Qq Qt (-1)))))))]
def f58_c26 : MC := .reg false f58_r26
def f58_c27 : MC := MC.ret
def f58_c28 : MC := .seq f58_c26 f58_c27
def f58_c29 : MC := MC.skip
def f58_c30 : MC := .cond (Qm 16) f58_c28 f58_c29
def f58_c31 : MC := .seq f58_c25 f58_c30
def f58_r32 : List MO := [
(Qa (Qu 17) (Qc (Qm 0))),
(Qa (Qu 18) (Qc (Qm 1))),
(Qa (Qu 19) (Qd Qs Go.BinOp.gtr (Qm 17) (Qm 18)))]
def f58_c32 : MC := .reg false f58_r32
def f58_r33 : List MO := [
(Qa (Qu 4) (Qc (Qn (Qo (Qp (Qq Qt 1))))))]
def f58_c33 : MC := .reg false f58_r33
def f58_c34 : MC := MC.ret
def f58_c35 : MC := .seq f58_c33 f58_c34
def f58_c36 : MC := MC.skip
def f58_c37 : MC := .cond (Qm 19) f58_c35 f58_c36
def f58_c38 : MC := .seq f58_c32 f58_c37
def f58_r39 : List MO := [
(Qa (Qu 4) (Qc (Qn (Qo (Qp (Qq Qt 0))))))]
def f58_c39 : MC := .reg false f58_r39
def f58_c40 : MC := MC.ret
def f58_c41 : MC := .seq f58_c39 f58_c40
def f58_c42 : MC := .seq f58_c38 f58_c41
def f58_c43 : MC := .seq f58_c31 f58_c42
def f58_c44 : MC := .seq f58_c24 f58_c43
def f58_c45 : MC := .seq f58_c17 f58_c44
def f58_c46 : MC := .seq f58_c2 f58_c45
def f58_c47 : MC := .seq f58_c1 f58_c46
def f58_c48 : MC := .seq f58_c0 f58_c47
noncomputable def f58_code : Code := (Go.Proofs.Tryd.f58.body).getD .skip
theorem f58_body : Go.Proofs.Tryd.f58.body = Qu f58_code := by kernel_rfl
theorem f58_tr : trC Go.Proofs.Tryd.prog [] f58_code = Qu f58_c48 := by kernel_rfl
theorem f58_rs : rsOf Go.Proofs.Tryd.prog Go.Proofs.Tryd.f58.results.toList = Qu [(RV.t 4)] := by kernel_rfl
theorem f58_nt : Go.Proofs.Tryd.f58.ntmps = 20 := by kernel_rfl
theorem f58_ok : callable Go.Proofs.Tryd.prog 58 = true := by kernel_rfl
theorem f58_in {gp : Heap} {args : List V} {res : V} (h : G ⟨Go.Proofs.Tryd.prog, gp, 0, [(RV.t 4)], fun r c => r = res ∧ c = [], false⟩ [.code f58_c48, .fin] ⟨args ++ List.replicate (20 - args.length) .un, []⟩) : Does Go.Proofs.Tryd.prog gp 58 args res :=
  does_intro f58_ok Go.Proofs.Tryd.func58 f58_body f58_tr f58_rs (by rw [f58_nt]; exact h)
theorem f58_tri {gp : Heap} {args : List V} {pre : List Ch} {R : V → List Ch → Prop} (h : G ⟨Go.Proofs.Tryd.prog, gp, pre.length, [(RV.t 4)], R, false⟩ [.code f58_c48, .fin] ⟨args ++ List.replicate (20 - args.length) .un, pre⟩) : Tri Go.Proofs.Tryd.prog gp 58 args pre R :=
  tri_intro Go.Proofs.Tryd.func58 f58_body f58_tr f58_rs (by rw [f58_nt]; exact h)

/-! cmp.Compare[string] -/
def f59_r0 : List MO := [
(Qa (Qu 4) (Qc (Qn (Qo (Qp (Qq Qt 0))))))]
def f59_c0 : MC := .reg false f59_r0
def f59_r1 : List MO := [
(Qa (Qu 7) (Qc (Qm 0))),
(Qa (Qu 8) (Qg 70 [(Qm 7)])),
(Qa (Qu 5) (Qc (Qm 8)))]
def f59_c1 : MC := .reg false f59_r1
def f59_r2 : List MO := [
(Qa (Qu 9) (Qc (Qm 1))),
(Qa (Qu 10) (Qg 70 [(Qm 9)])),
(Qa (Qu 6) (Qc (Qm 10)))]
def f59_c2 : MC := .reg false f59_r2
def f59_r3 : List MO := [
(Qa (Qu 11) (Qc (Qm 5)))]
def f59_c3 : MC := .reg false f59_r3
def f59_r4 : List MO := [
(Qa (Qu 12) (Qc (Qm 6)))]
def f59_c4 : MC := .reg false f59_r4
def f59_r5 : List MO := [
(Qa (Qu 4) (Qc (Qn (Qo (Qp (Qq Qt 0))))))]
def f59_c5 : MC := .reg false f59_r5
def f59_c6 : MC := MC.ret
def f59_c7 : MC := .seq f59_c5 f59_c6
def f59_c8 : MC := MC.skip
def f59_c9 : MC := .cond (Qm 12) f59_c7 f59_c8
def f59_c10 : MC := .seq f59_c4 f59_c9
def f59_r11 : List MO := [
(Qa (Qu 4) (Qc (Qn (Qo (Qp (Qq Qt (-1)))))))]
def f59_c11 : MC := .reg false f59_r11
def f59_c12 : MC := MC.ret
def f59_c13 : MC := .seq f59_c11 f59_c12
def f59_c14 : MC := .seq f59_c10 f59_c13
def f59_c15 : MC := MC.skip
def f59_c16 : MC := .cond (Qm 11) f59_c14 f59_c15
def f59_c17 : MC := .seq f59_c3 f59_c16
def f59_r18 : List MO := [
(Qa (Qu 13) (Qc (Qm 6)))]
def f59_c18 : MC := .reg false f59_r18
def f59_r19 : List MO := [
(Qa (Qu 4) (Qc (Qn (Qo (Qp (Qq Qt 1))))))]
def f59_c19 : MC := .reg false f59_r19
def f59_c20 : MC := MC.ret
def f59_c21 : MC := .seq f59_c19 f59_c20
def f59_c22 : MC := MC.skip
def f59_c23 : MC := .cond (Qm 13) f59_c21 f59_c22
def f59_c24 : MC := .seq f59_c18 f59_c23
def f59_r25 : List MO := [
(Qa (Qu 14) (Qc (Qm 0))),
(Qa (Qu 15) (Qc (Qm 1))),
(Qa (Qu 16) (Qd Leaf.s Go.BinOp.lss (Qm 14) (Qm 15)))]
def f59_c25 : MC := .reg false f59_r25
def f59_r26 : List MO := [
(Qa (Qu 4) (Qc (Qn (Qo (Qp (Qq Qt (-1)))))))]
def f59_c26 : MC := .reg false f59_r26
def f59_c27 : MC := MC.ret
def f59_c28 : MC := .seq f59_c26 f59_c27
def f59_c29 : MC := MC.skip
def f59_c30 : MC := .cond (Qm 16) f59_c28 f59_c29
def f59_c31 : MC := .seq f59_c25 f59_c30
def f59_r32 : List MO := [
(Qa (Qu 17) (Qc (Qm 0))),
(Qa (Qu 18) (Qc (Qm 1))),
(Qa (Qu 19) (Qd Leaf.s Go.BinOp.gtr (Qm 17) (Qm 18)))]
def f59_c32 : MC := .reg false f59_r32
def f59_r33 : List MO := [
(Qa (Qu 4) (Qc (Qn (Qo (Qp (Qq Qt 1))))))]
def f59_c33 : MC := .reg false f59_r33
def f59_c34 : MC := MC.ret
def f59_c35 : MC := .seq f59_c33 f59_c34
def f59_c36 : MC := MC.skip
def f59_c37 : MC := .cond (Qm 19) f59_c35 f59_c36
def f59_c38 : MC := .seq f59_c32 f59_c37
def f59_r39 : List MO := [
(Qa (Qu 4) (Qc (Qn (Qo (Qp (Qq Qt 0))))))]
def f59_c39 : MC := .reg false f59_r39
def f59_c40 : MC := MC.ret
def f59_c41 : MC := .seq f59_c39 f59_c40
def f59_c42 : MC := .seq f59_c38 f59_c41
def f59_c43 : MC := .seq f59_c31 f59_c42
def f59_c44 : MC := .seq f59_c24 f59_c43
def f59_c45 : MC := .seq f59_c17 f59_c44
def f59_c46 : MC := .seq f59_c2 f59_c45
def f59_c47 : MC := .seq f59_c1 f59_c46
def f59_c48 : MC := .seq f59_c0 f59_c47
noncomputable def f59_code : Code := (Go.Proofs.Tryd.f59.body).getD .skip
theorem f59_body : Go.Proofs.Tryd.f59.body = Qu f59_code := by kernel_rfl
theorem f59_tr : trC Go.Proofs.Tryd.prog [] f59_code = Qu f59_c48 := by kernel_rfl
theorem f59_rs : rsOf Go.Proofs.Tryd.prog Go.Proofs.Tryd.f59.results.toList = Qu [(RV.t 4)] := by kernel_rfl
theorem f59_nt : Go.Proofs.Tryd.f59.ntmps = 20 := by kernel_rfl
theorem f59_ok : callable Go.Proofs.Tryd.prog 59 = true := by kernel_rfl
theorem f59_in {gp : Heap} {args : List V} {res : V} (h : G ⟨Go.Proofs.Tryd.prog, gp, 0, [(RV.t 4)], fun r c => r = res ∧ c = [], false⟩ [.code f59_c48, .fin] ⟨args ++ List.replicate (20 - args.length) .un, []⟩) : Does Go.Proofs.Tryd.prog gp 59 args res :=
  does_intro f59_ok Go.Proofs.Tryd.func59 f59_body f59_tr f59_rs (by rw [f59_nt]; exact h)
theorem f59_tri {gp : Heap} {args : List V} {pre : List Ch} {R : V → List Ch → Prop} (h : G ⟨Go.Proofs.Tryd.prog, gp, pre.length, [(RV.t 4)], R, false⟩ [.code f59_c48, .fin] ⟨args ++ List.replicate (20 - args.length) .un, pre⟩) : Tri Go.Proofs.Tryd.prog gp 59 args pre R :=
  tri_intro Go.Proofs.Tryd.func59 f59_body f59_tr f59_rs (by rw [f59_nt]; exact h)

-- f60: no body
-- f61: no body
-- f62: no body
/-! sigillary/arena.areAll -/
def f63_r0 : List MO := [
(Qa (Qu 2) (Qc (Qn (Qo (Qp (Qr false))))))]
def f63_c0 : MC := .reg false f63_r0
def f63_r1 : List MO := [
(Qa (Qu 3) (Qc (Qm 0))),
(Qa (Qu 4) (Qg 71 [(Qm 3), (Qn (Qo (Qp (Qr false))))])),
(Qa (Qu 5) (MOp.not (Qm 4))),
(Qa (Qu 2) (Qc (Qm 5)))]
def f63_c1 : MC := .reg false f63_r1
def f63_c2 : MC := MC.ret
def f63_c3 : MC := .seq f63_c1 f63_c2
def f63_c4 : MC := .seq f63_c0 f63_c3
noncomputable def f63_code : Code := (Go.Proofs.Tryd.f63.body).getD .skip
theorem f63_body : Go.Proofs.Tryd.f63.body = Qu f63_code := by kernel_rfl
theorem f63_tr : trC Go.Proofs.Tryd.prog [] f63_code = Qu f63_c4 := by kernel_rfl
theorem f63_rs : rsOf Go.Proofs.Tryd.prog Go.Proofs.Tryd.f63.results.toList = Qu [(RV.t 2)] := by kernel_rfl
theorem f63_nt : Go.Proofs.Tryd.f63.ntmps = 6 := by kernel_rfl
theorem f63_ok : callable Go.Proofs.Tryd.prog 63 = true := by kernel_rfl
theorem f63_in {gp : Heap} {args : List V} {res : V} (h : G ⟨Go.Proofs.Tryd.prog, gp, 0, [(RV.t 2)], fun r c => r = res ∧ c = [], false⟩ [.code f63_c4, .fin] ⟨args ++ List.replicate (6 - args.length) .un, []⟩) : Does Go.Proofs.Tryd.prog gp 63 args res :=
  does_intro f63_ok Go.Proofs.Tryd.func63 f63_body f63_tr f63_rs (by rw [f63_nt]; exact h)
theorem f63_tri {gp : Heap} {args : List V} {pre : List Ch} {R : V → List Ch → Prop} (h : G ⟨Go.Proofs.Tryd.prog, gp, pre.length, [(RV.t 2)], R, false⟩ [.code f63_c4, .fin] ⟨args ++ List.replicate (6 - args.length) .un, pre⟩) : Tri Go.Proofs.Tryd.prog gp 63 args pre R :=
  tri_intro Go.Proofs.Tryd.func63 f63_body f63_tr f63_rs (by rw [f63_nt]; exact h)

/-! sigillary/plain.Right -/
def f64_r0 : List MO := [
(Qa (Qu 1) (MOp.ibox (Qm 0))),
(Qa (Qu 2) (Qc (Qn (Qo (Qp (Qr false))))))]
def f64_c0 : MC := .reg false f64_r0
def f64_r1 : List MO := [
(Qa (Qu 3) (Qf 0 (Qm 1))),
(Qa (Qu 4) (Qe 1 false (Qm 3)))]
def f64_c1 : MC := .reg false f64_r1
def f64_r2 : List MO := [
(Qa (Qu 6) (Qd Qs Go.BinOp.eql (Qm 4) (Qn (Qo (Qp (Qq Qt 0)))))),
(Qa (Qu 5) (Qc (Qm 6)))]
def f64_c2 : MC := .reg false f64_r2
def f64_r3 : List MO := [
(Qa (Qu 7) (Qe 3 true (Qm 1))),
(Qa (Qu 8) (MOp.build [(Qq Qt 0), (Qq Qt 0), (D.str (ByteArray.mk #[]))] [])),
(Qa (Qu 9) (MOp.eqs false [Qs, Qs, Leaf.s] (Qm 7) (Qm 8))),
(Qa (Qu 2) (Qc (Qm 9)))]
def f64_c3 : MC := .reg false f64_r3
def f64_c4 : MC := MC.ret
def f64_c5 : MC := .seq f64_c3 f64_c4
def f64_r6 : List MO := [
(Qa (Qu 11) (Qd Qs Go.BinOp.eql (Qm 4) (Qn (Qo (Qp (Qq Qt 1)))))),
(Qa (Qu 10) (Qc (Qm 11)))]
def f64_c6 : MC := .reg false f64_r6
def f64_r7 : List MO := [
(Qa (Qu 12) (Qf 2 (Qm 1))),
(Qa (Qu 13) (Qe 1 false (Qm 12))),
(Qa (Qu 14) (Qd Leaf.s Go.BinOp.eql (Qm 13) (Qn (Qo (Qp (D.str (ByteArray.mk #[]))))))),
(Qa (Qu 15) (Qc (Qm 14))),
(Qb 15 true (Qu 16)),
(Qa (Qu 16) (Qf 1 (Qm 1))),
(Qb 15 true (Qu 17)),
(Qa (Qu 17) (Qe 1 false (Qm 16))),
(Qb 15 true (Qu 18)),
(Qa (Qu 18) (Qd Qs Go.BinOp.eql (Qm 17) (Qn (Qo (Qp (Qq Qt 0)))))),
(Qb 15 true (Qu 19)),
(Qa (Qu 19) (Qc (Qm 18))),
(Qb 19 false (Qu 20)),
(Qa (Qu 20) (Qf 1 (Qm 1))),
(Qb 19 false (Qu 21)),
(Qa (Qu 21) (Qe 1 false (Qm 20))),
(Qb 19 false (Qu 22)),
(Qa (Qu 22) (Qd Qs Go.BinOp.eql (Qm 21) (Qn (Qo (Qp (Qq Qt 1)))))),
(Qb 15 true (Qu 23)),
(Qa (Qu 23) (Ql (Qm 19) (Qn (Qo (Qp (Qr true)))) (Qm 22))),
(Qa (Qu 24) (Ql (Qm 15) (Qm 23) (Qn (Qo (Qp (Qr false)))))),
(Qa (Qu 2) (Qc (Qm 24)))]
def f64_c7 : MC := .reg false f64_r7
def f64_c8 : MC := MC.ret
def f64_c9 : MC := .seq f64_c7 f64_c8
def f64_r10 : List MO := [
(Qa (Qu 26) (Qd Qs Go.BinOp.eql (Qm 4) (Qn (Qo (Qp (Qq Qt 2)))))),
(Qa (Qu 25) (Qc (Qm 26)))]
def f64_c10 : MC := .reg false f64_r10
def f64_r11 : List MO := [
(Qa (Qu 27) (Qf 2 (Qm 1))),
(Qa (Qu 28) (Qe 1 false (Qm 27))),
(Qa (Qu 29) (Qd Leaf.s Go.BinOp.eql (Qm 28) (Qn (Qo (Qp (D.str (ByteArray.mk #[]))))))),
(Qa (Qu 30) (Qc (Qm 29))),
(Qb 30 true (Qu 31)),
(Qa (Qu 31) (Qf 1 (Qm 1))),
(Qb 30 true (Qu 32)),
(Qa (Qu 32) (Qe 1 false (Qm 31))),
(Qb 30 true (Qu 33)),
(Qa (Qu 33) (Qd Qs Go.BinOp.geq (Qm 32) (Qn (Qo (Qp (Qq Qt (-999999999999999))))))),
(Qa (Qu 34) (Ql (Qm 30) (Qm 33) (Qn (Qo (Qp (Qr false)))))),
(Qa (Qu 35) (Qc (Qm 34))),
(Qb 35 true (Qu 36)),
(Qa (Qu 36) (Qf 1 (Qm 1))),
(Qb 35 true (Qu 37)),
(Qa (Qu 37) (Qe 1 false (Qm 36))),
(Qb 35 true (Qu 38)),
(Qa (Qu 38) (Qd Qs Go.BinOp.leq (Qm 37) (Qn (Qo (Qp (Qq Qt 999999999999999)))))),
(Qa (Qu 39) (Ql (Qm 35) (Qm 38) (Qn (Qo (Qp (Qr false)))))),
(Qa (Qu 2) (Qc (Qm 39)))]
def f64_c11 : MC := .reg false f64_r11
def f64_c12 : MC := MC.ret
def f64_c13 : MC := .seq f64_c11 f64_c12
def f64_r14 : List MO := [
(Qa (Qu 41) (Qd Qs Go.BinOp.eql (Qm 4) (Qn (Qo (Qp (Qq Qt 3)))))),
(Qa (Qu 40) (Qc (Qm 41)))]
def f64_c14 : MC := .reg false f64_r14
def f64_r15 : List MO := [
(Qa (Qu 42) (Qf 1 (Qm 1))),
(Qa (Qu 43) (Qe 1 false (Qm 42))),
(Qa (Qu 44) (Qd Qs Go.BinOp.eql (Qm 43) (Qn (Qo (Qp (Qq Qt 0)))))),
(Qa (Qu 45) (Qc (Qm 44))),
(Qb 45 true (Qu 46)),
(Qa (Qu 46) (Qf 2 (Qm 1))),
(Qb 45 true (Qu 47)),
(Qa (Qu 47) (Qe 1 false (Qm 46))),
(Qb 45 true (Qu 48)),
(Qa (Qu 48) (Qg 72 [(Qm 47)])),
(Qa (Qu 49) (Ql (Qm 45) (Qm 48) (Qn (Qo (Qp (Qr false)))))),
(Qa (Qu 2) (Qc (Qm 49)))]
def f64_c15 : MC := .reg false f64_r15
def f64_c16 : MC := MC.ret
def f64_c17 : MC := .seq f64_c15 f64_c16
def f64_c18 : MC := MC.skip
def f64_c19 : MC := .cond (Qm 40) f64_c17 f64_c18
def f64_c20 : MC := .seq f64_c14 f64_c19
def f64_c21 : MC := .cond (Qm 25) f64_c13 f64_c20
def f64_c22 : MC := .seq f64_c10 f64_c21
def f64_c23 : MC := .cond (Qm 10) f64_c9 f64_c22
def f64_c24 : MC := .seq f64_c6 f64_c23
def f64_c25 : MC := .cond (Qm 5) f64_c5 f64_c24
def f64_c26 : MC := .seq f64_c2 f64_c25
def f64_c27 : MC := .blk 0 f64_c26
def f64_c28 : MC := .seq f64_c1 f64_c27
def f64_r29 : List MO := [
(Qa (Qu 2) (Qc (Qn (Qo (Qp (Qr false))))))]
def f64_c29 : MC := .reg false f64_r29
def f64_c30 : MC := MC.ret
def f64_c31 : MC := .seq f64_c29 f64_c30
def f64_c32 : MC := .seq f64_c28 f64_c31
def f64_c33 : MC := .seq f64_c0 f64_c32
noncomputable def f64_code : Code := (Go.Proofs.Tryd.f64.body).getD .skip
theorem f64_body : Go.Proofs.Tryd.f64.body = Qu f64_code := by kernel_rfl
theorem f64_tr : trC Go.Proofs.Tryd.prog [1] f64_code = Qu f64_c33 := by kernel_rfl
theorem f64_rs : rsOf Go.Proofs.Tryd.prog Go.Proofs.Tryd.f64.results.toList = Qu [(RV.t 2)] := by kernel_rfl
theorem f64_nt : Go.Proofs.Tryd.f64.ntmps = 50 := by kernel_rfl
theorem f64_ok : callable Go.Proofs.Tryd.prog 64 = true := by kernel_rfl
theorem f64_in {gp : Heap} {args : List V} {res : V} (h : G ⟨Go.Proofs.Tryd.prog, gp, 0, [(RV.t 2)], fun r c => r = res ∧ c = [], false⟩ [.code f64_c33, .fin] ⟨args ++ List.replicate (50 - args.length) .un, []⟩) : Does Go.Proofs.Tryd.prog gp 64 args res :=
  does_intro f64_ok Go.Proofs.Tryd.func64 f64_body f64_tr f64_rs (by rw [f64_nt]; exact h)
theorem f64_tri {gp : Heap} {args : List V} {pre : List Ch} {R : V → List Ch → Prop} (h : G ⟨Go.Proofs.Tryd.prog, gp, pre.length, [(RV.t 2)], R, false⟩ [.code f64_c33, .fin] ⟨args ++ List.replicate (50 - args.length) .un, pre⟩) : Tri Go.Proofs.Tryd.prog gp 64 args pre R :=
  tri_intro Go.Proofs.Tryd.func64 f64_body f64_tr f64_rs (by rw [f64_nt]; exact h)

/-! (sigillary/arena.view).areKids -/
def f65_r0 : List MO := [
(Qa (Qu 1) (MOp.ibox (Qm 0))),
(Qa (Qu 2) (Qc (Qn (Qo (Qp (Qr false))))))]
def f65_c0 : MC := .reg false f65_r0
def f65_r1 : List MO := [
(Qa (Qu 4) (MOp.mkF (Go.Fn.func 73) [(Qm 1)])),
(Qa (Qu 3) (Qc (Qm 4)))]
def f65_c1 : MC := .reg false f65_r1
def f65_r2 : List MO := [
(Qa (Qu 5) (Qf 0 (Qm 1))),
(Qa (Qu 6) (Qf 5 (Qm 5))),
(Qa (Qu 7) (Qe 1 false (Qm 6))),
(Qa (Qu 8) (Qc (Qm 3))),
(Qa (Qu 9) (Qg 74 [(Qm 7), (Qm 8)])),
(Qa (Qu 10) (MOp.not (Qm 9))),
(Qa (Qu 2) (Qc (Qm 10)))]
def f65_c2 : MC := .reg false f65_r2
def f65_c3 : MC := MC.ret
def f65_c4 : MC := .seq f65_c2 f65_c3
def f65_c5 : MC := .seq f65_c1 f65_c4
def f65_c6 : MC := .seq f65_c0 f65_c5
noncomputable def f65_code : Code := (Go.Proofs.Tryd.f65.body).getD .skip
theorem f65_body : Go.Proofs.Tryd.f65.body = Qu f65_code := by kernel_rfl
theorem f65_tr : trC Go.Proofs.Tryd.prog [1] f65_code = Qu f65_c6 := by kernel_rfl
theorem f65_rs : rsOf Go.Proofs.Tryd.prog Go.Proofs.Tryd.f65.results.toList = Qu [(RV.t 2)] := by kernel_rfl
theorem f65_nt : Go.Proofs.Tryd.f65.ntmps = 11 := by kernel_rfl
theorem f65_ok : callable Go.Proofs.Tryd.prog 65 = true := by kernel_rfl
theorem f65_in {gp : Heap} {args : List V} {res : V} (h : G ⟨Go.Proofs.Tryd.prog, gp, 0, [(RV.t 2)], fun r c => r = res ∧ c = [], false⟩ [.code f65_c6, .fin] ⟨args ++ List.replicate (11 - args.length) .un, []⟩) : Does Go.Proofs.Tryd.prog gp 65 args res :=
  does_intro f65_ok Go.Proofs.Tryd.func65 f65_body f65_tr f65_rs (by rw [f65_nt]; exact h)
theorem f65_tri {gp : Heap} {args : List V} {pre : List Ch} {R : V → List Ch → Prop} (h : G ⟨Go.Proofs.Tryd.prog, gp, pre.length, [(RV.t 2)], R, false⟩ [.code f65_c6, .fin] ⟨args ++ List.replicate (11 - args.length) .un, pre⟩) : Tri Go.Proofs.Tryd.prog gp 65 args pre R :=
  tri_intro Go.Proofs.Tryd.func65 f65_body f65_tr f65_rs (by rw [f65_nt]; exact h)

/-! (sigillary/arena.view).areKeys -/
def f66_r0 : List MO := [
(Qa (Qu 1) (MOp.ibox (Qm 0))),
(Qa (Qu 2) (Qc (Qn (Qo (Qp (Qr false))))))]
def f66_c0 : MC := .reg false f66_r0
def f66_r1 : List MO := [
(Qa (Qu 3) (Qc (Qn (Qo (Qp (D.fn (Go.Fn.func 75) []))))))]
def f66_c1 : MC := .reg false f66_r1
def f66_r2 : List MO := [
(Qa (Qu 4) (Qf 0 (Qm 1))),
(Qa (Qu 5) (Qf 4 (Qm 4))),
(Qa (Qu 6) (Qe 1 false (Qm 5))),
(Qa (Qu 7) (Qc (Qm 3))),
(Qa (Qu 8) (Qg 76 [(Qm 6), (Qm 7)])),
(Qa (Qu 9) (MOp.not (Qm 8))),
(Qa (Qu 10) (Qc (Qm 9))),
(Qb 10 true (Qu 11)),
(Qa (Qu 11) (Qf 0 (Qm 1))),
(Qb 10 true (Qu 12)),
(Qa (Qu 12) (Qf 4 (Qm 11))),
(Qb 10 true (Qu 13)),
(Qa (Qu 13) (Qe 1 false (Qm 12))),
(Qb 10 true (Qu 14)),
(Qa (Qu 14) (Qg 77 [(Qm 13)])),
(Qb 10 true (Qu 15)),
(Qa (Qu 15) (MOp.not (Qm 14))),
(Qa (Qu 16) (Ql (Qm 10) (Qm 15) (Qn (Qo (Qp (Qr false)))))),
(Qa (Qu 2) (Qc (Qm 16)))]
def f66_c2 : MC := .reg false f66_r2
def f66_c3 : MC := MC.ret
def f66_c4 : MC := .seq f66_c2 f66_c3
def f66_c5 : MC := .seq f66_c1 f66_c4
def f66_c6 : MC := .seq f66_c0 f66_c5
noncomputable def f66_code : Code := (Go.Proofs.Tryd.f66.body).getD .skip
theorem f66_body : Go.Proofs.Tryd.f66.body = Qu f66_code := by kernel_rfl
theorem f66_tr : trC Go.Proofs.Tryd.prog [1] f66_code = Qu f66_c6 := by kernel_rfl
theorem f66_rs : rsOf Go.Proofs.Tryd.prog Go.Proofs.Tryd.f66.results.toList = Qu [(RV.t 2)] := by kernel_rfl
theorem f66_nt : Go.Proofs.Tryd.f66.ntmps = 17 := by kernel_rfl
theorem f66_ok : callable Go.Proofs.Tryd.prog 66 = true := by kernel_rfl
theorem f66_in {gp : Heap} {args : List V} {res : V} (h : G ⟨Go.Proofs.Tryd.prog, gp, 0, [(RV.t 2)], fun r c => r = res ∧ c = [], false⟩ [.code f66_c6, .fin] ⟨args ++ List.replicate (17 - args.length) .un, []⟩) : Does Go.Proofs.Tryd.prog gp 66 args res :=
  does_intro f66_ok Go.Proofs.Tryd.func66 f66_body f66_tr f66_rs (by rw [f66_nt]; exact h)
theorem f66_tri {gp : Heap} {args : List V} {pre : List Ch} {R : V → List Ch → Prop} (h : G ⟨Go.Proofs.Tryd.prog, gp, pre.length, [(RV.t 2)], R, false⟩ [.code f66_c6, .fin] ⟨args ++ List.replicate (17 - args.length) .un, pre⟩) : Tri Go.Proofs.Tryd.prog gp 66 args pre R :=
  tri_intro Go.Proofs.Tryd.func66 f66_body f66_tr f66_rs (by rw [f66_nt]; exact h)

/-! slices.insertionSortCmpFunc[sigillary/arena.pair] -/
def f67_r0 : List MO := [
(Qa (Qu 10) (Qc (Qm 1))),
(Qa (Qu 11) (Qd Qs Go.BinOp.add (Qm 10) (Qn (Qo (Qp (Qq Qt 1)))))),
(Qa (Qu 8) (Qc (Qm 11)))]
def f67_c0 : MC := .reg false f67_r0
def f67_r1 : List MO := [
(Qa (Qu 12) (Qc (Qm 8))),
(Qa (Qu 13) (Qc (Qm 2))),
(Qa (Qu 14) (Qd Qs Go.BinOp.lss (Qm 12) (Qm 13)))]
def f67_c1 : MC := .reg false f67_r1
def f67_c2 : MC := MC.skip
def f67_c3 : MC := (MC.exit 0)
def f67_c4 : MC := .cond (Qm 14) f67_c2 f67_c3
def f67_c5 : MC := .seq f67_c1 f67_c4
def f67_r6 : List MO := [
(Qa (Qu 17) (Qc (Qm 8))),
(Qa (Qu 9) (Qc (Qm 17)))]
def f67_c6 : MC := .reg false f67_r6
def f67_r7 : List MO := [
(Qa (Qu 18) (Qc (Qm 9))),
(Qa (Qu 19) (Qc (Qm 1))),
(Qa (Qu 20) (Qd Qs Go.BinOp.gtr (Qm 18) (Qm 19))),
(Qa (Qu 21) (Qc (Qm 20))),
(Qb 21 true (Qu 22)),
(Qa (Qu 22) (Qc (Qm 3))),
(Qb 21 true (Qu 23)),
(Qa (Qu 23) (Qc (Qm 0))),
(Qb 21 true (Qu 24)),
(Qa (Qu 24) (Qc (Qm 9))),
(Qb 21 true (Qu 25)),
(Qa (Qu 25) (Qi 4 (Qm 23) (Qm 24))),
(Qb 21 true (Qu 26)),
(Qa (Qu 26) (Qe 4 true (Qm 25))),
(Qb 21 true (Qu 27)),
(Qa (Qu 27) (Qc (Qm 0))),
(Qb 21 true (Qu 28)),
(Qa (Qu 28) (Qc (Qm 9))),
(Qb 21 true (Qu 29)),
(Qa (Qu 29) (Qd Qs Go.BinOp.sub (Qm 28) (Qn (Qo (Qp (Qq Qt 1)))))),
(Qb 21 true (Qu 30)),
(Qa (Qu 30) (Qi 4 (Qm 27) (Qm 29))),
(Qb 21 true (Qu 31)),
(Qa (Qu 31) (Qe 4 true (Qm 30))),
(Qb 21 true (Qu 32)),
(Qa (Qu 32) (MOp.callv (Qm 22) [(Qm 26), (Qm 31)])),
(Qb 21 true (Qu 33)),
(Qa (Qu 33) (Qd Qs Go.BinOp.lss (Qm 32) (Qn (Qo (Qp (Qq Qt 0)))))),
(Qa (Qu 34) (Ql (Qm 21) (Qm 33) (Qn (Qo (Qp (Qr false))))))]
def f67_c7 : MC := .reg true f67_r7
def f67_c8 : MC := MC.skip
def f67_c9 : MC := (MC.exit 2)
def f67_c10 : MC := .cond (Qm 34) f67_c8 f67_c9
def f67_c11 : MC := .seq f67_c7 f67_c10
def f67_r12 : List MO := [
(Qa (Qu 37) (Qc (Qm 0))),
(Qa (Qu 38) (Qc (Qm 9))),
(Qa (Qu 39) (Qc (Qm 0))),
(Qa (Qu 40) (Qc (Qm 9))),
(Qa (Qu 41) (Qd Qs Go.BinOp.sub (Qm 40) (Qn (Qo (Qp (Qq Qt 1)))))),
(Qa (Qu 42) (Qc (Qm 0))),
(Qa (Qu 43) (Qc (Qm 9))),
(Qa (Qu 44) (Qd Qs Go.BinOp.sub (Qm 43) (Qn (Qo (Qp (Qq Qt 1)))))),
(Qa (Qu 45) (Qi 4 (Qm 42) (Qm 44))),
(Qa (Qu 46) (Qe 4 true (Qm 45))),
(Qa (Qu 47) (Qc (Qm 0))),
(Qa (Qu 48) (Qc (Qm 9))),
(Qa (Qu 49) (Qi 4 (Qm 47) (Qm 48))),
(Qa (Qu 50) (Qe 4 true (Qm 49))),
(Qa (Qu 51) (Qi 4 (Qm 37) (Qm 38))),
(Qa none (Qk 4 (Qm 51) (Qm 46))),
(Qa (Qu 52) (Qi 4 (Qm 39) (Qm 41))),
(Qa none (Qk 4 (Qm 52) (Qm 50)))]
def f67_c12 : MC := .reg true f67_r12
def f67_c13 : MC := .blk 3 f67_c12
def f67_r14 : List MO := [
(Qa (Qu 35) (Qc (Qm 9))),
(Qa (Qu 36) (Qd Qs Go.BinOp.sub (Qm 35) (Qn (Qo (Qp (Qq Qt 1)))))),
(Qa (Qu 9) (Qc (Qm 36)))]
def f67_c14 : MC := .reg false f67_r14
def f67_c15 : MC := .seq f67_c13 f67_c14
def f67_c16 : MC := .seq f67_c11 f67_c15
def f67_c17 : MC := .loop f67_c16
def f67_c18 : MC := .blk 2 f67_c17
def f67_c19 : MC := .seq f67_c6 f67_c18
def f67_c20 : MC := .blk 1 f67_c19
def f67_r21 : List MO := [
(Qa (Qu 15) (Qc (Qm 8))),
(Qa (Qu 16) (Qd Qs Go.BinOp.add (Qm 15) (Qn (Qo (Qp (Qq Qt 1)))))),
(Qa (Qu 8) (Qc (Qm 16)))]
def f67_c21 : MC := .reg false f67_r21
def f67_c22 : MC := .seq f67_c20 f67_c21
def f67_c23 : MC := .seq f67_c5 f67_c22
def f67_c24 : MC := .loop f67_c23
def f67_c25 : MC := .blk 0 f67_c24
def f67_c26 : MC := .seq f67_c0 f67_c25
noncomputable def f67_code : Code := (Go.Proofs.Tryd.f67.body).getD .skip
theorem f67_body : Go.Proofs.Tryd.f67.body = Qu f67_code := by kernel_rfl
theorem f67_tr : trC Go.Proofs.Tryd.prog [] f67_code = Qu f67_c26 := by kernel_rfl
theorem f67_rs : rsOf Go.Proofs.Tryd.prog Go.Proofs.Tryd.f67.results.toList = Qu [] := by kernel_rfl
theorem f67_nt : Go.Proofs.Tryd.f67.ntmps = 53 := by kernel_rfl
theorem f67_ok : callable Go.Proofs.Tryd.prog 67 = true := by kernel_rfl
theorem f67_in {gp : Heap} {args : List V} {res : V} (h : G ⟨Go.Proofs.Tryd.prog, gp, 0, [], fun r c => r = res ∧ c = [], false⟩ [.code f67_c26, .fin] ⟨args ++ List.replicate (53 - args.length) .un, []⟩) : Does Go.Proofs.Tryd.prog gp 67 args res :=
  does_intro f67_ok Go.Proofs.Tryd.func67 f67_body f67_tr f67_rs (by rw [f67_nt]; exact h)
theorem f67_tri {gp : Heap} {args : List V} {pre : List Ch} {R : V → List Ch → Prop} (h : G ⟨Go.Proofs.Tryd.prog, gp, pre.length, [], R, false⟩ [.code f67_c26, .fin] ⟨args ++ List.replicate (53 - args.length) .un, pre⟩) : Tri Go.Proofs.Tryd.prog gp 67 args pre R :=
  tri_intro Go.Proofs.Tryd.func67 f67_body f67_tr f67_rs (by rw [f67_nt]; exact h)

/-! slices.symMergeCmpFunc[sigillary/arena.pair] -/
def f68_r0 : List MO := [
(Qa (Qu 25) (Qc (Qm 2))),
(Qa (Qu 26) (Qc (Qm 1))),
(Qa (Qu 27) (Qd Qs Go.BinOp.sub (Qm 25) (Qm 26))),
(Qa (Qu 28) (Qd Qs Go.BinOp.eql (Qm 27) (Qn (Qo (Qp (Qq Qt 1))))))]
def f68_c0 : MC := .reg false f68_r0
def f68_r1 : List MO := [
(Qa (Qu 29) (Qc (Qm 2))),
(Qa (Qu 10) (Qc (Qm 29)))]
def f68_c1 : MC := .reg false f68_r1
def f68_r2 : List MO := [
(Qa (Qu 30) (Qc (Qm 3))),
(Qa (Qu 11) (Qc (Qm 30)))]
def f68_c2 : MC := .reg false f68_r2
def f68_r3 : List MO := [
(Qa (Qu 31) (Qc (Qm 10))),
(Qa (Qu 32) (Qc (Qm 11))),
(Qa (Qu 33) (Qd Qs Go.BinOp.lss (Qm 31) (Qm 32)))]
def f68_c3 : MC := .reg false f68_r3
def f68_c4 : MC := MC.skip
def f68_c5 : MC := (MC.exit 0)
def f68_c6 : MC := .cond (Qm 33) f68_c4 f68_c5
def f68_c7 : MC := .seq f68_c3 f68_c6
def f68_r8 : List MO := [
(Qa (Qu 34) (Qc (Qm 10))),
(Qa (Qu 35) (Qc (Qm 11))),
(Qa (Qu 36) (Qd Qs Go.BinOp.add (Qm 34) (Qm 35))),
(Qa (Qu 37) (MOp.conv Go.IntKind.u64 (Qm 36))),
(Qa (Qu 38) (Qd Qs Go.BinOp.shr (Qm 37) (Qn (Qo (Qp (Qq Go.IntKind.u64 1)))))),
(Qa (Qu 39) (MOp.conv Qt (Qm 38))),
(Qa (Qu 12) (Qc (Qm 39)))]
def f68_c8 : MC := .reg false f68_r8
def f68_r9 : List MO := [
(Qa (Qu 40) (Qc (Qm 4))),
(Qa (Qu 41) (Qc (Qm 0))),
(Qa (Qu 42) (Qc (Qm 12))),
(Qa (Qu 43) (Qi 4 (Qm 41) (Qm 42))),
(Qa (Qu 44) (Qe 4 true (Qm 43))),
(Qa (Qu 45) (Qc (Qm 0))),
(Qa (Qu 46) (Qc (Qm 1))),
(Qa (Qu 47) (Qi 4 (Qm 45) (Qm 46))),
(Qa (Qu 48) (Qe 4 true (Qm 47))),
(Qa (Qu 49) (MOp.callv (Qm 40) [(Qm 44), (Qm 48)])),
(Qa (Qu 50) (Qd Qs Go.BinOp.lss (Qm 49) (Qn (Qo (Qp (Qq Qt 0))))))]
def f68_c9 : MC := .reg true f68_r9
def f68_r10 : List MO := [
(Qa (Qu 51) (Qc (Qm 12))),
(Qa (Qu 52) (Qd Qs Go.BinOp.add (Qm 51) (Qn (Qo (Qp (Qq Qt 1)))))),
(Qa (Qu 10) (Qc (Qm 52)))]
def f68_c10 : MC := .reg false f68_r10
def f68_r11 : List MO := [
(Qa (Qu 53) (Qc (Qm 12))),
(Qa (Qu 11) (Qc (Qm 53)))]
def f68_c11 : MC := .reg false f68_r11
def f68_c12 : MC := .cond (Qm 50) f68_c10 f68_c11
def f68_c13 : MC := .seq f68_c9 f68_c12
def f68_c14 : MC := .seq f68_c8 f68_c13
def f68_c15 : MC := .blk 1 f68_c14
def f68_c16 : MC := .seq f68_c7 f68_c15
def f68_c17 : MC := .loop f68_c16
def f68_c18 : MC := .blk 0 f68_c17
def f68_r19 : List MO := [
(Qa (Qu 54) (Qc (Qm 1))),
(Qa (Qu 13) (Qc (Qm 54)))]
def f68_c19 : MC := .reg false f68_r19
def f68_r20 : List MO := [
(Qa (Qu 55) (Qc (Qm 13))),
(Qa (Qu 56) (Qc (Qm 10))),
(Qa (Qu 57) (Qd Qs Go.BinOp.sub (Qm 56) (Qn (Qo (Qp (Qq Qt 1)))))),
(Qa (Qu 58) (Qd Qs Go.BinOp.lss (Qm 55) (Qm 57)))]
def f68_c20 : MC := .reg false f68_r20
def f68_c21 : MC := MC.skip
def f68_c22 : MC := (MC.exit 2)
def f68_c23 : MC := .cond (Qm 58) f68_c21 f68_c22
def f68_c24 : MC := .seq f68_c20 f68_c23
def f68_r25 : List MO := [
(Qa (Qu 61) (Qc (Qm 0))),
(Qa (Qu 62) (Qc (Qm 13))),
(Qa (Qu 63) (Qc (Qm 0))),
(Qa (Qu 64) (Qc (Qm 13))),
(Qa (Qu 65) (Qd Qs Go.BinOp.add (Qm 64) (Qn (Qo (Qp (Qq Qt 1)))))),
(Qa (Qu 66) (Qc (Qm 0))),
(Qa (Qu 67) (Qc (Qm 13))),
(Qa (Qu 68) (Qd Qs Go.BinOp.add (Qm 67) (Qn (Qo (Qp (Qq Qt 1)))))),
(Qa (Qu 69) (Qi 4 (Qm 66) (Qm 68))),
(Qa (Qu 70) (Qe 4 true (Qm 69))),
(Qa (Qu 71) (Qc (Qm 0))),
(Qa (Qu 72) (Qc (Qm 13))),
(Qa (Qu 73) (Qi 4 (Qm 71) (Qm 72))),
(Qa (Qu 74) (Qe 4 true (Qm 73))),
(Qa (Qu 75) (Qi 4 (Qm 61) (Qm 62))),
(Qa none (Qk 4 (Qm 75) (Qm 70))),
(Qa (Qu 76) (Qi 4 (Qm 63) (Qm 65))),
(Qa none (Qk 4 (Qm 76) (Qm 74)))]
def f68_c25 : MC := .reg true f68_r25
def f68_c26 : MC := .blk 3 f68_c25
def f68_r27 : List MO := [
(Qa (Qu 59) (Qc (Qm 13))),
(Qa (Qu 60) (Qd Qs Go.BinOp.add (Qm 59) (Qn (Qo (Qp (Qq Qt 1)))))),
(Qa (Qu 13) (Qc (Qm 60)))]
def f68_c27 : MC := .reg false f68_r27
def f68_c28 : MC := .seq f68_c26 f68_c27
def f68_c29 : MC := .seq f68_c24 f68_c28
def f68_c30 : MC := .loop f68_c29
def f68_c31 : MC := .blk 2 f68_c30
def f68_c32 : MC := .seq f68_c19 f68_c31
def f68_c33 : MC := MC.ret
def f68_c34 : MC := .seq f68_c32 f68_c33
def f68_c35 : MC := .seq f68_c18 f68_c34
def f68_c36 : MC := .seq f68_c2 f68_c35
def f68_c37 : MC := .seq f68_c1 f68_c36
def f68_c38 : MC := MC.skip
def f68_c39 : MC := .cond (Qm 28) f68_c37 f68_c38
def f68_c40 : MC := .seq f68_c0 f68_c39
def f68_r41 : List MO := [
(Qa (Qu 77) (Qc (Qm 3))),
(Qa (Qu 78) (Qc (Qm 2))),
(Qa (Qu 79) (Qd Qs Go.BinOp.sub (Qm 77) (Qm 78))),
(Qa (Qu 80) (Qd Qs Go.BinOp.eql (Qm 79) (Qn (Qo (Qp (Qq Qt 1))))))]
def f68_c41 : MC := .reg false f68_r41
def f68_r42 : List MO := [
(Qa (Qu 81) (Qc (Qm 1))),
(Qa (Qu 14) (Qc (Qm 81)))]
def f68_c42 : MC := .reg false f68_r42
def f68_r43 : List MO := [
(Qa (Qu 82) (Qc (Qm 2))),
(Qa (Qu 15) (Qc (Qm 82)))]
def f68_c43 : MC := .reg false f68_r43
def f68_r44 : List MO := [
(Qa (Qu 83) (Qc (Qm 14))),
(Qa (Qu 84) (Qc (Qm 15))),
(Qa (Qu 85) (Qd Qs Go.BinOp.lss (Qm 83) (Qm 84)))]
def f68_c44 : MC := .reg false f68_r44
def f68_c45 : MC := MC.skip
def f68_c46 : MC := (MC.exit 4)
def f68_c47 : MC := .cond (Qm 85) f68_c45 f68_c46
def f68_c48 : MC := .seq f68_c44 f68_c47
def f68_r49 : List MO := [
(Qa (Qu 86) (Qc (Qm 14))),
(Qa (Qu 87) (Qc (Qm 15))),
(Qa (Qu 88) (Qd Qs Go.BinOp.add (Qm 86) (Qm 87))),
(Qa (Qu 89) (MOp.conv Go.IntKind.u64 (Qm 88))),
(Qa (Qu 90) (Qd Qs Go.BinOp.shr (Qm 89) (Qn (Qo (Qp (Qq Go.IntKind.u64 1)))))),
(Qa (Qu 91) (MOp.conv Qt (Qm 90))),
(Qa (Qu 16) (Qc (Qm 91)))]
def f68_c49 : MC := .reg false f68_r49
def f68_r50 : List MO := [
(Qa (Qu 92) (Qc (Qm 4))),
(Qa (Qu 93) (Qc (Qm 0))),
(Qa (Qu 94) (Qc (Qm 2))),
(Qa (Qu 95) (Qi 4 (Qm 93) (Qm 94))),
(Qa (Qu 96) (Qe 4 true (Qm 95))),
(Qa (Qu 97) (Qc (Qm 0))),
(Qa (Qu 98) (Qc (Qm 16))),
(Qa (Qu 99) (Qi 4 (Qm 97) (Qm 98))),
(Qa (Qu 100) (Qe 4 true (Qm 99))),
(Qa (Qu 101) (MOp.callv (Qm 92) [(Qm 96), (Qm 100)])),
(Qa (Qu 102) (Qd Qs Go.BinOp.lss (Qm 101) (Qn (Qo (Qp (Qq Qt 0)))))),
(Qa (Qu 103) (MOp.not (Qm 102)))]
def f68_c50 : MC := .reg true f68_r50
def f68_r51 : List MO := [
(Qa (Qu 104) (Qc (Qm 16))),
(Qa (Qu 105) (Qd Qs Go.BinOp.add (Qm 104) (Qn (Qo (Qp (Qq Qt 1)))))),
(Qa (Qu 14) (Qc (Qm 105)))]
def f68_c51 : MC := .reg false f68_r51
def f68_r52 : List MO := [
(Qa (Qu 106) (Qc (Qm 16))),
(Qa (Qu 15) (Qc (Qm 106)))]
def f68_c52 : MC := .reg false f68_r52
def f68_c53 : MC := .cond (Qm 103) f68_c51 f68_c52
def f68_c54 : MC := .seq f68_c50 f68_c53
def f68_c55 : MC := .seq f68_c49 f68_c54
def f68_c56 : MC := .blk 5 f68_c55
def f68_c57 : MC := .seq f68_c48 f68_c56
def f68_c58 : MC := .loop f68_c57
def f68_c59 : MC := .blk 4 f68_c58
def f68_r60 : List MO := [
(Qa (Qu 107) (Qc (Qm 2))),
(Qa (Qu 17) (Qc (Qm 107)))]
def f68_c60 : MC := .reg false f68_r60
def f68_r61 : List MO := [
(Qa (Qu 108) (Qc (Qm 17))),
(Qa (Qu 109) (Qc (Qm 14))),
(Qa (Qu 110) (Qd Qs Go.BinOp.gtr (Qm 108) (Qm 109)))]
def f68_c61 : MC := .reg false f68_r61
def f68_c62 : MC := MC.skip
def f68_c63 : MC := (MC.exit 6)
def f68_c64 : MC := .cond (Qm 110) f68_c62 f68_c63
def f68_c65 : MC := .seq f68_c61 f68_c64
def f68_r66 : List MO := [
(Qa (Qu 113) (Qc (Qm 0))),
(Qa (Qu 114) (Qc (Qm 17))),
(Qa (Qu 115) (Qc (Qm 0))),
(Qa (Qu 116) (Qc (Qm 17))),
(Qa (Qu 117) (Qd Qs Go.BinOp.sub (Qm 116) (Qn (Qo (Qp (Qq Qt 1)))))),
(Qa (Qu 118) (Qc (Qm 0))),
(Qa (Qu 119) (Qc (Qm 17))),
(Qa (Qu 120) (Qd Qs Go.BinOp.sub (Qm 119) (Qn (Qo (Qp (Qq Qt 1)))))),
(Qa (Qu 121) (Qi 4 (Qm 118) (Qm 120))),
(Qa (Qu 122) (Qe 4 true (Qm 121))),
(Qa (Qu 123) (Qc (Qm 0))),
(Qa (Qu 124) (Qc (Qm 17))),
(Qa (Qu 125) (Qi 4 (Qm 123) (Qm 124))),
(Qa (Qu 126) (Qe 4 true (Qm 125))),
(Qa (Qu 127) (Qi 4 (Qm 113) (Qm 114))),
(Qa none (Qk 4 (Qm 127) (Qm 122))),
(Qa (Qu 128) (Qi 4 (Qm 115) (Qm 117))),
(Qa none (Qk 4 (Qm 128) (Qm 126)))]
def f68_c66 : MC := .reg true f68_r66
def f68_c67 : MC := .blk 7 f68_c66
def f68_r68 : List MO := [
(Qa (Qu 111) (Qc (Qm 17))),
(Qa (Qu 112) (Qd Qs Go.BinOp.sub (Qm 111) (Qn (Qo (Qp (Qq Qt 1)))))),
(Qa (Qu 17) (Qc (Qm 112)))]
def f68_c68 : MC := .reg false f68_r68
def f68_c69 : MC := .seq f68_c67 f68_c68
def f68_c70 : MC := .seq f68_c65 f68_c69
def f68_c71 : MC := .loop f68_c70
def f68_c72 : MC := .blk 6 f68_c71
def f68_c73 : MC := .seq f68_c60 f68_c72
def f68_c74 : MC := MC.ret
def f68_c75 : MC := .seq f68_c73 f68_c74
def f68_c76 : MC := .seq f68_c59 f68_c75
def f68_c77 : MC := .seq f68_c43 f68_c76
def f68_c78 : MC := .seq f68_c42 f68_c77
def f68_c79 : MC := MC.skip
def f68_c80 : MC := .cond (Qm 80) f68_c78 f68_c79
def f68_c81 : MC := .seq f68_c41 f68_c80
def f68_r82 : List MO := [
(Qa (Qu 129) (Qc (Qm 1))),
(Qa (Qu 130) (Qc (Qm 3))),
(Qa (Qu 131) (Qd Qs Go.BinOp.add (Qm 129) (Qm 130))),
(Qa (Qu 132) (MOp.conv Go.IntKind.u64 (Qm 131))),
(Qa (Qu 133) (Qd Qs Go.BinOp.shr (Qm 132) (Qn (Qo (Qp (Qq Go.IntKind.u64 1)))))),
(Qa (Qu 134) (MOp.conv Qt (Qm 133))),
(Qa (Qu 18) (Qc (Qm 134)))]
def f68_c82 : MC := .reg false f68_r82
def f68_r83 : List MO := [
(Qa (Qu 135) (Qc (Qm 18))),
(Qa (Qu 136) (Qc (Qm 2))),
(Qa (Qu 137) (Qd Qs Go.BinOp.add (Qm 135) (Qm 136))),
(Qa (Qu 19) (Qc (Qm 137)))]
def f68_c83 : MC := .reg false f68_r83
def f68_r84 : List MO := [
(Qa (Qu 20) (Qc (Qn (Qo (Qp (Qq Qt 0)))))),
(Qa (Qu 21) (Qc (Qn (Qo (Qp (Qq Qt 0))))))]
def f68_c84 : MC := .reg false f68_r84
def f68_r85 : List MO := [
(Qa (Qu 138) (Qc (Qm 2))),
(Qa (Qu 139) (Qc (Qm 18))),
(Qa (Qu 140) (Qd Qs Go.BinOp.gtr (Qm 138) (Qm 139)))]
def f68_c85 : MC := .reg false f68_r85
def f68_r86 : List MO := [
(Qa (Qu 141) (Qc (Qm 19))),
(Qa (Qu 142) (Qc (Qm 3))),
(Qa (Qu 143) (Qd Qs Go.BinOp.sub (Qm 141) (Qm 142))),
(Qa (Qu 20) (Qc (Qm 143)))]
def f68_c86 : MC := .reg false f68_r86
def f68_r87 : List MO := [
(Qa (Qu 144) (Qc (Qm 18))),
(Qa (Qu 21) (Qc (Qm 144)))]
def f68_c87 : MC := .reg false f68_r87
def f68_c88 : MC := .seq f68_c86 f68_c87
def f68_r89 : List MO := [
(Qa (Qu 145) (Qc (Qm 1))),
(Qa (Qu 20) (Qc (Qm 145)))]
def f68_c89 : MC := .reg false f68_r89
def f68_r90 : List MO := [
(Qa (Qu 146) (Qc (Qm 2))),
(Qa (Qu 21) (Qc (Qm 146)))]
def f68_c90 : MC := .reg false f68_r90
def f68_c91 : MC := .seq f68_c89 f68_c90
def f68_c92 : MC := .cond (Qm 140) f68_c88 f68_c91
def f68_c93 : MC := .seq f68_c85 f68_c92
def f68_r94 : List MO := [
(Qa (Qu 147) (Qc (Qm 19))),
(Qa (Qu 148) (Qd Qs Go.BinOp.sub (Qm 147) (Qn (Qo (Qp (Qq Qt 1)))))),
(Qa (Qu 22) (Qc (Qm 148)))]
def f68_c94 : MC := .reg false f68_r94
def f68_r95 : List MO := [
(Qa (Qu 149) (Qc (Qm 20))),
(Qa (Qu 150) (Qc (Qm 21))),
(Qa (Qu 151) (Qd Qs Go.BinOp.lss (Qm 149) (Qm 150)))]
def f68_c95 : MC := .reg false f68_r95
def f68_c96 : MC := MC.skip
def f68_c97 : MC := (MC.exit 8)
def f68_c98 : MC := .cond (Qm 151) f68_c96 f68_c97
def f68_c99 : MC := .seq f68_c95 f68_c98
def f68_r100 : List MO := [
(Qa (Qu 152) (Qc (Qm 20))),
(Qa (Qu 153) (Qc (Qm 21))),
(Qa (Qu 154) (Qd Qs Go.BinOp.add (Qm 152) (Qm 153))),
(Qa (Qu 155) (MOp.conv Go.IntKind.u64 (Qm 154))),
(Qa (Qu 156) (Qd Qs Go.BinOp.shr (Qm 155) (Qn (Qo (Qp (Qq Go.IntKind.u64 1)))))),
(Qa (Qu 157) (MOp.conv Qt (Qm 156))),
(Qa (Qu 23) (Qc (Qm 157)))]
def f68_c100 : MC := .reg false f68_r100
def f68_r101 : List MO := [
(Qa (Qu 158) (Qc (Qm 4))),
(Qa (Qu 159) (Qc (Qm 0))),
(Qa (Qu 160) (Qc (Qm 22))),
(Qa (Qu 161) (Qc (Qm 23))),
(Qa (Qu 162) (Qd Qs Go.BinOp.sub (Qm 160) (Qm 161))),
(Qa (Qu 163) (Qi 4 (Qm 159) (Qm 162))),
(Qa (Qu 164) (Qe 4 true (Qm 163))),
(Qa (Qu 165) (Qc (Qm 0))),
(Qa (Qu 166) (Qc (Qm 23))),
(Qa (Qu 167) (Qi 4 (Qm 165) (Qm 166))),
(Qa (Qu 168) (Qe 4 true (Qm 167))),
(Qa (Qu 169) (MOp.callv (Qm 158) [(Qm 164), (Qm 168)])),
(Qa (Qu 170) (Qd Qs Go.BinOp.lss (Qm 169) (Qn (Qo (Qp (Qq Qt 0)))))),
(Qa (Qu 171) (MOp.not (Qm 170)))]
def f68_c101 : MC := .reg true f68_r101
def f68_r102 : List MO := [
(Qa (Qu 172) (Qc (Qm 23))),
(Qa (Qu 173) (Qd Qs Go.BinOp.add (Qm 172) (Qn (Qo (Qp (Qq Qt 1)))))),
(Qa (Qu 20) (Qc (Qm 173)))]
def f68_c102 : MC := .reg false f68_r102
def f68_r103 : List MO := [
(Qa (Qu 174) (Qc (Qm 23))),
(Qa (Qu 21) (Qc (Qm 174)))]
def f68_c103 : MC := .reg false f68_r103
def f68_c104 : MC := .cond (Qm 171) f68_c102 f68_c103
def f68_c105 : MC := .seq f68_c101 f68_c104
def f68_c106 : MC := .seq f68_c100 f68_c105
def f68_c107 : MC := .blk 9 f68_c106
def f68_c108 : MC := .seq f68_c99 f68_c107
def f68_c109 : MC := .loop f68_c108
def f68_c110 : MC := .blk 8 f68_c109
def f68_r111 : List MO := [
(Qa (Qu 175) (Qc (Qm 19))),
(Qa (Qu 176) (Qc (Qm 20))),
(Qa (Qu 177) (Qd Qs Go.BinOp.sub (Qm 175) (Qm 176))),
(Qa (Qu 24) (Qc (Qm 177)))]
def f68_c111 : MC := .reg false f68_r111
def f68_r112 : List MO := [
(Qa (Qu 178) (Qc (Qm 20))),
(Qa (Qu 179) (Qc (Qm 2))),
(Qa (Qu 180) (Qd Qs Go.BinOp.lss (Qm 178) (Qm 179))),
(Qa (Qu 181) (Qc (Qm 180))),
(Qb 181 true (Qu 182)),
(Qa (Qu 182) (Qc (Qm 2))),
(Qb 181 true (Qu 183)),
(Qa (Qu 183) (Qc (Qm 24))),
(Qb 181 true (Qu 184)),
(Qa (Qu 184) (Qd Qs Go.BinOp.lss (Qm 182) (Qm 183))),
(Qa (Qu 185) (Ql (Qm 181) (Qm 184) (Qn (Qo (Qp (Qr false))))))]
def f68_c112 : MC := .reg false f68_r112
def f68_r113 : List MO := [
(Qa (Qu 186) (Qc (Qm 0))),
(Qa (Qu 187) (Qc (Qm 20))),
(Qa (Qu 188) (Qc (Qm 2))),
(Qa (Qu 189) (Qc (Qm 24))),
(Qa (Qu 190) (Qc (Qm 4))),
(Qa (Qu 191) (Qg 78 [(Qm 186), (Qm 187), (Qm 188), (Qm 189), (Qm 190)]))]
def f68_c113 : MC := .reg false f68_r113
def f68_c114 : MC := MC.skip
def f68_c115 : MC := .cond (Qm 185) f68_c113 f68_c114
def f68_c116 : MC := .seq f68_c112 f68_c115
def f68_r117 : List MO := [
(Qa (Qu 192) (Qc (Qm 1))),
(Qa (Qu 193) (Qc (Qm 20))),
(Qa (Qu 194) (Qd Qs Go.BinOp.lss (Qm 192) (Qm 193))),
(Qa (Qu 195) (Qc (Qm 194))),
(Qb 195 true (Qu 196)),
(Qa (Qu 196) (Qc (Qm 20))),
(Qb 195 true (Qu 197)),
(Qa (Qu 197) (Qc (Qm 18))),
(Qb 195 true (Qu 198)),
(Qa (Qu 198) (Qd Qs Go.BinOp.lss (Qm 196) (Qm 197))),
(Qa (Qu 199) (Ql (Qm 195) (Qm 198) (Qn (Qo (Qp (Qr false))))))]
def f68_c117 : MC := .reg false f68_r117
def f68_r118 : List MO := [
(Qa (Qu 200) (Qc (Qm 0))),
(Qa (Qu 201) (Qc (Qm 1))),
(Qa (Qu 202) (Qc (Qm 20))),
(Qa (Qu 203) (Qc (Qm 18))),
(Qa (Qu 204) (Qc (Qm 4))),
(Qa (Qu 205) (Qg 68 [(Qm 200), (Qm 201), (Qm 202), (Qm 203), (Qm 204)]))]
def f68_c118 : MC := .reg false f68_r118
def f68_c119 : MC := MC.skip
def f68_c120 : MC := .cond (Qm 199) f68_c118 f68_c119
def f68_c121 : MC := .seq f68_c117 f68_c120
def f68_r122 : List MO := [
(Qa (Qu 206) (Qc (Qm 18))),
(Qa (Qu 207) (Qc (Qm 24))),
(Qa (Qu 208) (Qd Qs Go.BinOp.lss (Qm 206) (Qm 207))),
(Qa (Qu 209) (Qc (Qm 208))),
(Qb 209 true (Qu 210)),
(Qa (Qu 210) (Qc (Qm 24))),
(Qb 209 true (Qu 211)),
(Qa (Qu 211) (Qc (Qm 3))),
(Qb 209 true (Qu 212)),
(Qa (Qu 212) (Qd Qs Go.BinOp.lss (Qm 210) (Qm 211))),
(Qa (Qu 213) (Ql (Qm 209) (Qm 212) (Qn (Qo (Qp (Qr false))))))]
def f68_c122 : MC := .reg false f68_r122
def f68_r123 : List MO := [
(Qa (Qu 214) (Qc (Qm 0))),
(Qa (Qu 215) (Qc (Qm 18))),
(Qa (Qu 216) (Qc (Qm 24))),
(Qa (Qu 217) (Qc (Qm 3))),
(Qa (Qu 218) (Qc (Qm 4))),
(Qa (Qu 219) (Qg 68 [(Qm 214), (Qm 215), (Qm 216), (Qm 217), (Qm 218)]))]
def f68_c123 : MC := .reg false f68_r123
def f68_c124 : MC := MC.skip
def f68_c125 : MC := .cond (Qm 213) f68_c123 f68_c124
def f68_c126 : MC := .seq f68_c122 f68_c125
def f68_c127 : MC := .seq f68_c121 f68_c126
def f68_c128 : MC := .seq f68_c116 f68_c127
def f68_c129 : MC := .seq f68_c111 f68_c128
def f68_c130 : MC := .seq f68_c110 f68_c129
def f68_c131 : MC := .seq f68_c94 f68_c130
def f68_c132 : MC := .seq f68_c93 f68_c131
def f68_c133 : MC := .seq f68_c84 f68_c132
def f68_c134 : MC := .seq f68_c83 f68_c133
def f68_c135 : MC := .seq f68_c82 f68_c134
def f68_c136 : MC := .seq f68_c81 f68_c135
def f68_c137 : MC := .seq f68_c40 f68_c136
noncomputable def f68_code : Code := (Go.Proofs.Tryd.f68.body).getD .skip
theorem f68_body : Go.Proofs.Tryd.f68.body = Qu f68_code := by kernel_rfl
theorem f68_tr : trC Go.Proofs.Tryd.prog [] f68_code = Qu f68_c137 := by kernel_rfl
theorem f68_rs : rsOf Go.Proofs.Tryd.prog Go.Proofs.Tryd.f68.results.toList = Qu [] := by kernel_rfl
theorem f68_nt : Go.Proofs.Tryd.f68.ntmps = 220 := by kernel_rfl
theorem f68_ok : callable Go.Proofs.Tryd.prog 68 = true := by kernel_rfl
theorem f68_in {gp : Heap} {args : List V} {res : V} (h : G ⟨Go.Proofs.Tryd.prog, gp, 0, [], fun r c => r = res ∧ c = [], false⟩ [.code f68_c137, .fin] ⟨args ++ List.replicate (220 - args.length) .un, []⟩) : Does Go.Proofs.Tryd.prog gp 68 args res :=
  does_intro f68_ok Go.Proofs.Tryd.func68 f68_body f68_tr f68_rs (by rw [f68_nt]; exact h)
theorem f68_tri {gp : Heap} {args : List V} {pre : List Ch} {R : V → List Ch → Prop} (h : G ⟨Go.Proofs.Tryd.prog, gp, pre.length, [], R, false⟩ [.code f68_c137, .fin] ⟨args ++ List.replicate (220 - args.length) .un, pre⟩) : Tri Go.Proofs.Tryd.prog gp 68 args pre R :=
  tri_intro Go.Proofs.Tryd.func68 f68_body f68_tr f68_rs (by rw [f68_nt]; exact h)

/-! cmp.isNaN[int] -/
def f69_r0 : List MO := [
(Qa (Qu 2) (Qc (Qn (Qo (Qp (Qr false))))))]
def f69_c0 : MC := .reg false f69_r0
def f69_r1 : List MO := [
(Qa (Qu 3) (Qc (Qm 0))),
(Qa (Qu 4) (Qc (Qm 0))),
(Qa (Qu 5) (Qd Qs Go.BinOp.neq (Qm 3) (Qm 4))),
(Qa (Qu 2) (Qc (Qm 5)))]
def f69_c1 : MC := .reg false f69_r1
def f69_c2 : MC := MC.ret
def f69_c3 : MC := .seq f69_c1 f69_c2
def f69_c4 : MC := .seq f69_c0 f69_c3
noncomputable def f69_code : Code := (Go.Proofs.Tryd.f69.body).getD .skip
theorem f69_body : Go.Proofs.Tryd.f69.body = Qu f69_code := by kernel_rfl
theorem f69_tr : trC Go.Proofs.Tryd.prog [] f69_code = Qu f69_c4 := by kernel_rfl
theorem f69_rs : rsOf Go.Proofs.Tryd.prog Go.Proofs.Tryd.f69.results.toList = Qu [(RV.t 2)] := by kernel_rfl
theorem f69_nt : Go.Proofs.Tryd.f69.ntmps = 6 := by kernel_rfl
theorem f69_ok : callable Go.Proofs.Tryd.prog 69 = true := by kernel_rfl
theorem f69_in {gp : Heap} {args : List V} {res : V} (h : G ⟨Go.Proofs.Tryd.prog, gp, 0, [(RV.t 2)], fun r c => r = res ∧ c = [], false⟩ [.code f69_c4, .fin] ⟨args ++ List.replicate (6 - args.length) .un, []⟩) : Does Go.Proofs.Tryd.prog gp 69 args res :=
  does_intro f69_ok Go.Proofs.Tryd.func69 f69_body f69_tr f69_rs (by rw [f69_nt]; exact h)
theorem f69_tri {gp : Heap} {args : List V} {pre : List Ch} {R : V → List Ch → Prop} (h : G ⟨Go.Proofs.Tryd.prog, gp, pre.length, [(RV.t 2)], R, false⟩ [.code f69_c4, .fin] ⟨args ++ List.replicate (6 - args.length) .un, pre⟩) : Tri Go.Proofs.Tryd.prog gp 69 args pre R :=
  tri_intro Go.Proofs.Tryd.func69 f69_body f69_tr f69_rs (by rw [f69_nt]; exact h)

/-! cmp.isNaN[string] -/
def f70_r0 : List MO := [
(Qa (Qu 2) (Qc (Qn (Qo (Qp (Qr false))))))]
def f70_c0 : MC := .reg false f70_r0
def f70_r1 : List MO := [
(Qa (Qu 3) (Qc (Qm 0))),
(Qa (Qu 4) (Qc (Qm 0))),
(Qa (Qu 5) (Qd Leaf.s Go.BinOp.neq (Qm 3) (Qm 4))),
(Qa (Qu 2) (Qc (Qm 5)))]
def f70_c1 : MC := .reg false f70_r1
def f70_c2 : MC := MC.ret
def f70_c3 : MC := .seq f70_c1 f70_c2
def f70_c4 : MC := .seq f70_c0 f70_c3
noncomputable def f70_code : Code := (Go.Proofs.Tryd.f70.body).getD .skip
theorem f70_body : Go.Proofs.Tryd.f70.body = Qu f70_code := by kernel_rfl
theorem f70_tr : trC Go.Proofs.Tryd.prog [] f70_code = Qu f70_c4 := by kernel_rfl
theorem f70_rs : rsOf Go.Proofs.Tryd.prog Go.Proofs.Tryd.f70.results.toList = Qu [(RV.t 2)] := by kernel_rfl
theorem f70_nt : Go.Proofs.Tryd.f70.ntmps = 6 := by kernel_rfl
theorem f70_ok : callable Go.Proofs.Tryd.prog 70 = true := by kernel_rfl
theorem f70_in {gp : Heap} {args : List V} {res : V} (h : G ⟨Go.Proofs.Tryd.prog, gp, 0, [(RV.t 2)], fun r c => r = res ∧ c = [], false⟩ [.code f70_c4, .fin] ⟨args ++ List.replicate (6 - args.length) .un, []⟩) : Does Go.Proofs.Tryd.prog gp 70 args res :=
  does_intro f70_ok Go.Proofs.Tryd.func70 f70_body f70_tr f70_rs (by rw [f70_nt]; exact h)
theorem f70_tri {gp : Heap} {args : List V} {pre : List Ch} {R : V → List Ch → Prop} (h : G ⟨Go.Proofs.Tryd.prog, gp, pre.length, [(RV.t 2)], R, false⟩ [.code f70_c4, .fin] ⟨args ++ List.replicate (6 - args.length) .un, pre⟩) : Tri Go.Proofs.Tryd.prog gp 70 args pre R :=
  tri_intro Go.Proofs.Tryd.func70 f70_body f70_tr f70_rs (by rw [f70_nt]; exact h)

/-! slices.Contains[[]bool,bool] -/
def f71_r0 : List MO := [
(Qa (Qu 4) (Qc (Qn (Qo (Qp (Qr false))))))]
def f71_c0 : MC := .reg false f71_r0
def f71_r1 : List MO := [
(Qa (Qu 5) (Qc (Qm 0))),
(Qa (Qu 6) (Qc (Qm 1))),
(Qa (Qu 7) (Qg 79 [(Qm 5), (Qm 6)])),
(Qa (Qu 8) (Qd Qs Go.BinOp.geq (Qm 7) (Qn (Qo (Qp (Qq Qt 0)))))),
(Qa (Qu 4) (Qc (Qm 8)))]
def f71_c1 : MC := .reg false f71_r1
def f71_c2 : MC := MC.ret
def f71_c3 : MC := .seq f71_c1 f71_c2
def f71_c4 : MC := .seq f71_c0 f71_c3
noncomputable def f71_code : Code := (Go.Proofs.Tryd.f71.body).getD .skip
theorem f71_body : Go.Proofs.Tryd.f71.body = Qu f71_code := by kernel_rfl
theorem f71_tr : trC Go.Proofs.Tryd.prog [] f71_code = Qu f71_c4 := by kernel_rfl
theorem f71_rs : rsOf Go.Proofs.Tryd.prog Go.Proofs.Tryd.f71.results.toList = Qu [(RV.t 4)] := by kernel_rfl
theorem f71_nt : Go.Proofs.Tryd.f71.ntmps = 9 := by kernel_rfl
theorem f71_ok : callable Go.Proofs.Tryd.prog 71 = true := by kernel_rfl
theorem f71_in {gp : Heap} {args : List V} {res : V} (h : G ⟨Go.Proofs.Tryd.prog, gp, 0, [(RV.t 4)], fun r c => r = res ∧ c = [], false⟩ [.code f71_c4, .fin] ⟨args ++ List.replicate (9 - args.length) .un, []⟩) : Does Go.Proofs.Tryd.prog gp 71 args res :=
  does_intro f71_ok Go.Proofs.Tryd.func71 f71_body f71_tr f71_rs (by rw [f71_nt]; exact h)
theorem f71_tri {gp : Heap} {args : List V} {pre : List Ch} {R : V → List Ch → Prop} (h : G ⟨Go.Proofs.Tryd.prog, gp, pre.length, [(RV.t 4)], R, false⟩ [.code f71_c4, .fin] ⟨args ++ List.replicate (9 - args.length) .un, pre⟩) : Tri Go.Proofs.Tryd.prog gp 71 args pre R :=
  tri_intro Go.Proofs.Tryd.func71 f71_body f71_tr f71_rs (by rw [f71_nt]; exact h)

/-! sigillary/quote.Right -/
def f72_r0 : List MO := [
(Qa (Qu 2) (Qc (Qn (Qo (Qp (Qr false))))))]
def f72_c0 : MC := .reg false f72_r0
def f72_r1 : List MO := [
(Qa (Qu 7) (Qc (Qm 0))),
(Qa (Qu 8) (MOp.rng (Qm 7)))]
def f72_c1 : MC := .reg false f72_r1
def f72_r2 : List MO := [
(Qa (Qu 9) (MOp.nxt (Qm 8))),
(Qa (Qu 10) (Qh (Qm 9) 0))]
def f72_c2 : MC := .reg false f72_r2
def f72_c3 : MC := MC.skip
def f72_c4 : MC := (MC.exit 0)
def f72_c5 : MC := .cond (Qm 10) f72_c3 f72_c4
def f72_r6 : List MO := [
(Qa (Qu 11) (Qh (Qm 9) 1)),
(Qa (Qu 12) (Qh (Qm 9) 2)),
(Qa (Qu 3) (Qc (Qm 11))),
(Qa (Qu 4) (Qc (Qm 12)))]
def f72_c6 : MC := .reg false f72_r6
def f72_r7 : List MO := [
(Qa (Qu 14) (Qc (Qm 0))),
(Qa (Qu 15) (Qc (Qm 3))),
(Qa (Qu 16) (MOp.slcS (Qm 14) (Qu (Qm 15)) none)),
(Qa (Qu 17) (Qg 80 [(Qm 16)])),
(Qa (Qu 13) (Qc (Qm 17))),
(Qa (Qu 18) (Qh (Qm 13) 0)),
(Qa (Qu 19) (Qh (Qm 13) 1)),
(Qa (Qu 5) (Qc (Qm 18))),
(Qa (Qu 6) (Qc (Qm 19)))]
def f72_c7 : MC := .reg false f72_r7
def f72_r8 : List MO := [
(Qa (Qu 20) (Qc (Qm 4))),
(Qa (Qu 21) (Qd Qs Go.BinOp.eql (Qm 20) (Qn (Qo (Qp (Qq Go.IntKind.i32 65533)))))),
(Qa (Qu 22) (Qc (Qm 21))),
(Qb 22 true (Qu 23)),
(Qa (Qu 23) (Qc (Qm 6))),
(Qb 22 true (Qu 24)),
(Qa (Qu 24) (Qd Qs Go.BinOp.eql (Qm 23) (Qn (Qo (Qp (Qq Qt 1)))))),
(Qa (Qu 25) (Ql (Qm 22) (Qm 24) (Qn (Qo (Qp (Qr false))))))]
def f72_c8 : MC := .reg false f72_r8
def f72_r9 : List MO := [
(Qa (Qu 2) (Qc (Qn (Qo (Qp (Qr false))))))]
def f72_c9 : MC := .reg false f72_r9
def f72_c10 : MC := MC.ret
def f72_c11 : MC := .seq f72_c9 f72_c10
def f72_c12 : MC := MC.skip
def f72_c13 : MC := .cond (Qm 25) f72_c11 f72_c12
def f72_c14 : MC := .seq f72_c8 f72_c13
def f72_c15 : MC := .seq f72_c7 f72_c14
def f72_c16 : MC := .seq f72_c6 f72_c15
def f72_c17 : MC := .blk 1 f72_c16
def f72_c18 : MC := .seq f72_c5 f72_c17
def f72_c19 : MC := .seq f72_c2 f72_c18
def f72_c20 : MC := .loop f72_c19
def f72_c21 : MC := .blk 0 f72_c20
def f72_c22 : MC := .seq f72_c1 f72_c21
def f72_r23 : List MO := [
(Qa (Qu 2) (Qc (Qn (Qo (Qp (Qr true))))))]
def f72_c23 : MC := .reg false f72_r23
def f72_c24 : MC := MC.ret
def f72_c25 : MC := .seq f72_c23 f72_c24
def f72_c26 : MC := .seq f72_c22 f72_c25
def f72_c27 : MC := .seq f72_c0 f72_c26
noncomputable def f72_code : Code := (Go.Proofs.Tryd.f72.body).getD .skip
theorem f72_body : Go.Proofs.Tryd.f72.body = Qu f72_code := by kernel_rfl
theorem f72_tr : trC Go.Proofs.Tryd.prog [] f72_code = Qu f72_c27 := by kernel_rfl
theorem f72_rs : rsOf Go.Proofs.Tryd.prog Go.Proofs.Tryd.f72.results.toList = Qu [(RV.t 2)] := by kernel_rfl
theorem f72_nt : Go.Proofs.Tryd.f72.ntmps = 26 := by kernel_rfl
theorem f72_ok : callable Go.Proofs.Tryd.prog 72 = true := by kernel_rfl
theorem f72_in {gp : Heap} {args : List V} {res : V} (h : G ⟨Go.Proofs.Tryd.prog, gp, 0, [(RV.t 2)], fun r c => r = res ∧ c = [], false⟩ [.code f72_c27, .fin] ⟨args ++ List.replicate (26 - args.length) .un, []⟩) : Does Go.Proofs.Tryd.prog gp 72 args res :=
  does_intro f72_ok Go.Proofs.Tryd.func72 f72_body f72_tr f72_rs (by rw [f72_nt]; exact h)
theorem f72_tri {gp : Heap} {args : List V} {pre : List Ch} {R : V → List Ch → Prop} (h : G ⟨Go.Proofs.Tryd.prog, gp, pre.length, [(RV.t 2)], R, false⟩ [.code f72_c27, .fin] ⟨args ++ List.replicate (26 - args.length) .un, pre⟩) : Tri Go.Proofs.Tryd.prog gp 72 args pre R :=
  tri_intro Go.Proofs.Tryd.func72 f72_body f72_tr f72_rs (by rw [f72_nt]; exact h)

/-! (sigillary/arena.view).areKids$1 -/
def f73_r0 : List MO := [
(Qa (Qu 3) (Qc (Qn (Qo (Qp (Qr false))))))]
def f73_c0 : MC := .reg false f73_r0
def f73_r1 : List MO := [
(Qa (Qu 4) (Qc (Qm 0))),
(Qa (Qu 5) (Qd Qs Go.BinOp.lss (Qm 4) (Qn (Qo (Qp (Qq Qt 0)))))),
(Qa (Qu 6) (Qc (Qm 5))),
(Qb 6 false (Qu 7)),
(Qa (Qu 7) (Qc (Qm 0))),
(Qb 6 false (Qu 8)),
(Qa (Qu 8) (Qf 6 (Qm 1))),
(Qb 6 false (Qu 9)),
(Qa (Qu 9) (Qe 1 false (Qm 8))),
(Qb 6 false (Qu 10)),
(Qa (Qu 10) (Qd Qs Go.BinOp.geq (Qm 7) (Qm 9))),
(Qa (Qu 11) (Ql (Qm 6) (Qn (Qo (Qp (Qr true)))) (Qm 10))),
(Qa (Qu 3) (Qc (Qm 11)))]
def f73_c1 : MC := .reg false f73_r1
def f73_c2 : MC := MC.ret
def f73_c3 : MC := .seq f73_c1 f73_c2
def f73_c4 : MC := .seq f73_c0 f73_c3
noncomputable def f73_code : Code := (Go.Proofs.Tryd.f73.body).getD .skip
theorem f73_body : Go.Proofs.Tryd.f73.body = Qu f73_code := by kernel_rfl
theorem f73_tr : trC Go.Proofs.Tryd.prog [] f73_code = Qu f73_c4 := by kernel_rfl
theorem f73_rs : rsOf Go.Proofs.Tryd.prog Go.Proofs.Tryd.f73.results.toList = Qu [(RV.t 3)] := by kernel_rfl
theorem f73_nt : Go.Proofs.Tryd.f73.ntmps = 12 := by kernel_rfl
theorem f73_ok : callable Go.Proofs.Tryd.prog 73 = true := by kernel_rfl
theorem f73_in {gp : Heap} {args : List V} {res : V} (h : G ⟨Go.Proofs.Tryd.prog, gp, 0, [(RV.t 3)], fun r c => r = res ∧ c = [], false⟩ [.code f73_c4, .fin] ⟨args ++ List.replicate (12 - args.length) .un, []⟩) : Does Go.Proofs.Tryd.prog gp 73 args res :=
  does_intro f73_ok Go.Proofs.Tryd.func73 f73_body f73_tr f73_rs (by rw [f73_nt]; exact h)
theorem f73_tri {gp : Heap} {args : List V} {pre : List Ch} {R : V → List Ch → Prop} (h : G ⟨Go.Proofs.Tryd.prog, gp, pre.length, [(RV.t 3)], R, false⟩ [.code f73_c4, .fin] ⟨args ++ List.replicate (12 - args.length) .un, pre⟩) : Tri Go.Proofs.Tryd.prog gp 73 args pre R :=
  tri_intro Go.Proofs.Tryd.func73 f73_body f73_tr f73_rs (by rw [f73_nt]; exact h)

/-! slices.ContainsFunc[[]int,int] -/
def f74_r0 : List MO := [
(Qa (Qu 4) (Qc (Qn (Qo (Qp (Qr false))))))]
def f74_c0 : MC := .reg false f74_r0
def f74_r1 : List MO := [
(Qa (Qu 5) (Qc (Qm 0))),
(Qa (Qu 6) (Qc (Qm 1))),
(Qa (Qu 7) (Qg 81 [(Qm 5), (Qm 6)])),
(Qa (Qu 8) (Qd Qs Go.BinOp.geq (Qm 7) (Qn (Qo (Qp (Qq Qt 0)))))),
(Qa (Qu 4) (Qc (Qm 8)))]
def f74_c1 : MC := .reg false f74_r1
def f74_c2 : MC := MC.ret
def f74_c3 : MC := .seq f74_c1 f74_c2
def f74_c4 : MC := .seq f74_c0 f74_c3
noncomputable def f74_code : Code := (Go.Proofs.Tryd.f74.body).getD .skip
theorem f74_body : Go.Proofs.Tryd.f74.body = Qu f74_code := by kernel_rfl
theorem f74_tr : trC Go.Proofs.Tryd.prog [] f74_code = Qu f74_c4 := by kernel_rfl
theorem f74_rs : rsOf Go.Proofs.Tryd.prog Go.Proofs.Tryd.f74.results.toList = Qu [(RV.t 4)] := by kernel_rfl
theorem f74_nt : Go.Proofs.Tryd.f74.ntmps = 9 := by kernel_rfl
theorem f74_ok : callable Go.Proofs.Tryd.prog 74 = true := by kernel_rfl
theorem f74_in {gp : Heap} {args : List V} {res : V} (h : G ⟨Go.Proofs.Tryd.prog, gp, 0, [(RV.t 4)], fun r c => r = res ∧ c = [], false⟩ [.code f74_c4, .fin] ⟨args ++ List.replicate (9 - args.length) .un, []⟩) : Does Go.Proofs.Tryd.prog gp 74 args res :=
  does_intro f74_ok Go.Proofs.Tryd.func74 f74_body f74_tr f74_rs (by rw [f74_nt]; exact h)
theorem f74_tri {gp : Heap} {args : List V} {pre : List Ch} {R : V → List Ch → Prop} (h : G ⟨Go.Proofs.Tryd.prog, gp, pre.length, [(RV.t 4)], R, false⟩ [.code f74_c4, .fin] ⟨args ++ List.replicate (9 - args.length) .un, pre⟩) : Tri Go.Proofs.Tryd.prog gp 74 args pre R :=
  tri_intro Go.Proofs.Tryd.func74 f74_body f74_tr f74_rs (by rw [f74_nt]; exact h)

/-! (sigillary/arena.view).areKeys$1 -/
def f75_r0 : List MO := [
(Qa (Qu 1) (MOp.ibox (Qm 0))),
(Qa (Qu 2) (Qc (Qn (Qo (Qp (Qr false))))))]
def f75_c0 : MC := .reg false f75_r0
def f75_r1 : List MO := [
(Qa (Qu 3) (Qe 3 true (Qm 1))),
(Qa (Qu 4) (Qg 64 [(Qm 3)])),
(Qa (Qu 5) (MOp.not (Qm 4))),
(Qa (Qu 2) (Qc (Qm 5)))]
def f75_c1 : MC := .reg false f75_r1
def f75_c2 : MC := MC.ret
def f75_c3 : MC := .seq f75_c1 f75_c2
def f75_c4 : MC := .seq f75_c0 f75_c3
noncomputable def f75_code : Code := (Go.Proofs.Tryd.f75.body).getD .skip
theorem f75_body : Go.Proofs.Tryd.f75.body = Qu f75_code := by kernel_rfl
theorem f75_tr : trC Go.Proofs.Tryd.prog [1] f75_code = Qu f75_c4 := by kernel_rfl
theorem f75_rs : rsOf Go.Proofs.Tryd.prog Go.Proofs.Tryd.f75.results.toList = Qu [(RV.t 2)] := by kernel_rfl
theorem f75_nt : Go.Proofs.Tryd.f75.ntmps = 6 := by kernel_rfl
theorem f75_ok : callable Go.Proofs.Tryd.prog 75 = true := by kernel_rfl
theorem f75_in {gp : Heap} {args : List V} {res : V} (h : G ⟨Go.Proofs.Tryd.prog, gp, 0, [(RV.t 2)], fun r c => r = res ∧ c = [], false⟩ [.code f75_c4, .fin] ⟨args ++ List.replicate (6 - args.length) .un, []⟩) : Does Go.Proofs.Tryd.prog gp 75 args res :=
  does_intro f75_ok Go.Proofs.Tryd.func75 f75_body f75_tr f75_rs (by rw [f75_nt]; exact h)
theorem f75_tri {gp : Heap} {args : List V} {pre : List Ch} {R : V → List Ch → Prop} (h : G ⟨Go.Proofs.Tryd.prog, gp, pre.length, [(RV.t 2)], R, false⟩ [.code f75_c4, .fin] ⟨args ++ List.replicate (6 - args.length) .un, pre⟩) : Tri Go.Proofs.Tryd.prog gp 75 args pre R :=
  tri_intro Go.Proofs.Tryd.func75 f75_body f75_tr f75_rs (by rw [f75_nt]; exact h)

/-! slices.ContainsFunc[[]sigillary/api.Scalar,sigillary/api.Scalar] -/
def f76_r0 : List MO := [
(Qa (Qu 4) (Qc (Qn (Qo (Qp (Qr false))))))]
def f76_c0 : MC := .reg false f76_r0
def f76_r1 : List MO := [
(Qa (Qu 5) (Qc (Qm 0))),
(Qa (Qu 6) (Qc (Qm 1))),
(Qa (Qu 7) (Qg 82 [(Qm 5), (Qm 6)])),
(Qa (Qu 8) (Qd Qs Go.BinOp.geq (Qm 7) (Qn (Qo (Qp (Qq Qt 0)))))),
(Qa (Qu 4) (Qc (Qm 8)))]
def f76_c1 : MC := .reg false f76_r1
def f76_c2 : MC := MC.ret
def f76_c3 : MC := .seq f76_c1 f76_c2
def f76_c4 : MC := .seq f76_c0 f76_c3
noncomputable def f76_code : Code := (Go.Proofs.Tryd.f76.body).getD .skip
theorem f76_body : Go.Proofs.Tryd.f76.body = Qu f76_code := by kernel_rfl
theorem f76_tr : trC Go.Proofs.Tryd.prog [] f76_code = Qu f76_c4 := by kernel_rfl
theorem f76_rs : rsOf Go.Proofs.Tryd.prog Go.Proofs.Tryd.f76.results.toList = Qu [(RV.t 4)] := by kernel_rfl
theorem f76_nt : Go.Proofs.Tryd.f76.ntmps = 9 := by kernel_rfl
theorem f76_ok : callable Go.Proofs.Tryd.prog 76 = true := by kernel_rfl
theorem f76_in {gp : Heap} {args : List V} {res : V} (h : G ⟨Go.Proofs.Tryd.prog, gp, 0, [(RV.t 4)], fun r c => r = res ∧ c = [], false⟩ [.code f76_c4, .fin] ⟨args ++ List.replicate (9 - args.length) .un, []⟩) : Does Go.Proofs.Tryd.prog gp 76 args res :=
  does_intro f76_ok Go.Proofs.Tryd.func76 f76_body f76_tr f76_rs (by rw [f76_nt]; exact h)
theorem f76_tri {gp : Heap} {args : List V} {pre : List Ch} {R : V → List Ch → Prop} (h : G ⟨Go.Proofs.Tryd.prog, gp, pre.length, [(RV.t 4)], R, false⟩ [.code f76_c4, .fin] ⟨args ++ List.replicate (9 - args.length) .un, pre⟩) : Tri Go.Proofs.Tryd.prog gp 76 args pre R :=
  tri_intro Go.Proofs.Tryd.func76 f76_body f76_tr f76_rs (by rw [f76_nt]; exact h)

/-! sigillary/scal.Twice -/
def f77_r0 : List MO := [
(Qa (Qu 2) (Qc (Qn (Qo (Qp (Qr false))))))]
def f77_c0 : MC := .reg false f77_r0
def f77_r1 : List MO := [
(Qa (Qu 3) (MOp.alloc [(Qq Qt 0)])),
(Qa none (Qk 1 (Qm 3) (Qn (Qo (Qp (Qq Qt 0))))))]
def f77_c1 : MC := .reg false f77_r1
def f77_r2 : List MO := [
(Qa (Qu 4) (Qc (Qm 0))),
(Qa (Qu 5) (Qg 83 [(Qm 4)]))]
def f77_c2 : MC := .reg false f77_r2
def f77_c3 : MC := MC.skip
def f77_r4 : List MO := [
(Qa (Qu 7) (Qe 1 false (Qm 3))),
(Qa (Qu 8) (Qd Qs Go.BinOp.add (Qm 7) (Qn (Qo (Qp (Qq Qt 1)))))),
(Qa none (Qk 1 (Qm 3) (Qm 8)))]
def f77_c4 : MC := .reg false f77_r4
def f77_c5 : MC := .blk 1 f77_c4
def f77_c6 : MC := .rf (Qm 5) [6] f77_c3 f77_c5
def f77_c7 : MC := .blk 0 f77_c6
def f77_c8 : MC := .seq f77_c2 f77_c7
def f77_r9 : List MO := [
(Qa (Qu 9) (Qe 1 false (Qm 3))),
(Qa (Qu 10) (Qc (Qm 0))),
(Qa (Qu 11) (Qj Qs (Qm 10))),
(Qa (Qu 12) (Qd Qs Go.BinOp.lss (Qm 9) (Qm 11))),
(Qa (Qu 2) (Qc (Qm 12)))]
def f77_c9 : MC := .reg false f77_r9
def f77_c10 : MC := MC.ret
def f77_c11 : MC := .seq f77_c9 f77_c10
def f77_c12 : MC := .seq f77_c8 f77_c11
def f77_c13 : MC := .seq f77_c1 f77_c12
def f77_c14 : MC := .seq f77_c0 f77_c13
noncomputable def f77_code : Code := (Go.Proofs.Tryd.f77.body).getD .skip
theorem f77_body : Go.Proofs.Tryd.f77.body = Qu f77_code := by kernel_rfl
theorem f77_tr : trC Go.Proofs.Tryd.prog [] f77_code = Qu f77_c14 := by kernel_rfl
theorem f77_rs : rsOf Go.Proofs.Tryd.prog Go.Proofs.Tryd.f77.results.toList = Qu [(RV.t 2)] := by kernel_rfl
theorem f77_nt : Go.Proofs.Tryd.f77.ntmps = 13 := by kernel_rfl
theorem f77_ok : callable Go.Proofs.Tryd.prog 77 = true := by kernel_rfl
theorem f77_in {gp : Heap} {args : List V} {res : V} (h : G ⟨Go.Proofs.Tryd.prog, gp, 0, [(RV.t 2)], fun r c => r = res ∧ c = [], false⟩ [.code f77_c14, .fin] ⟨args ++ List.replicate (13 - args.length) .un, []⟩) : Does Go.Proofs.Tryd.prog gp 77 args res :=
  does_intro f77_ok Go.Proofs.Tryd.func77 f77_body f77_tr f77_rs (by rw [f77_nt]; exact h)
theorem f77_tri {gp : Heap} {args : List V} {pre : List Ch} {R : V → List Ch → Prop} (h : G ⟨Go.Proofs.Tryd.prog, gp, pre.length, [(RV.t 2)], R, false⟩ [.code f77_c14, .fin] ⟨args ++ List.replicate (13 - args.length) .un, pre⟩) : Tri Go.Proofs.Tryd.prog gp 77 args pre R :=
  tri_intro Go.Proofs.Tryd.func77 f77_body f77_tr f77_rs (by rw [f77_nt]; exact h)

/-! slices.rotateCmpFunc[sigillary/arena.pair] -/
def f78_r0 : List MO := [
(Qa (Qu 12) (Qc (Qm 2))),
(Qa (Qu 13) (Qc (Qm 1))),
(Qa (Qu 14) (Qd Qs Go.BinOp.sub (Qm 12) (Qm 13))),
(Qa (Qu 10) (Qc (Qm 14)))]
def f78_c0 : MC := .reg false f78_r0
def f78_r1 : List MO := [
(Qa (Qu 15) (Qc (Qm 3))),
(Qa (Qu 16) (Qc (Qm 2))),
(Qa (Qu 17) (Qd Qs Go.BinOp.sub (Qm 15) (Qm 16))),
(Qa (Qu 11) (Qc (Qm 17)))]
def f78_c1 : MC := .reg false f78_r1
def f78_r2 : List MO := [
(Qa (Qu 18) (Qc (Qm 10))),
(Qa (Qu 19) (Qc (Qm 11))),
(Qa (Qu 20) (Qd Qs Go.BinOp.neq (Qm 18) (Qm 19)))]
def f78_c2 : MC := .reg false f78_r2
def f78_c3 : MC := MC.skip
def f78_c4 : MC := (MC.exit 0)
def f78_c5 : MC := .cond (Qm 20) f78_c3 f78_c4
def f78_c6 : MC := .seq f78_c2 f78_c5
def f78_r7 : List MO := [
(Qa (Qu 21) (Qc (Qm 10))),
(Qa (Qu 22) (Qc (Qm 11))),
(Qa (Qu 23) (Qd Qs Go.BinOp.gtr (Qm 21) (Qm 22)))]
def f78_c7 : MC := .reg false f78_r7
def f78_r8 : List MO := [
(Qa (Qu 24) (Qc (Qm 0))),
(Qa (Qu 25) (Qc (Qm 2))),
(Qa (Qu 26) (Qc (Qm 10))),
(Qa (Qu 27) (Qd Qs Go.BinOp.sub (Qm 25) (Qm 26))),
(Qa (Qu 28) (Qc (Qm 2))),
(Qa (Qu 29) (Qc (Qm 11))),
(Qa (Qu 30) (Qc (Qm 4))),
(Qa (Qu 31) (Qg 84 [(Qm 24), (Qm 27), (Qm 28), (Qm 29), (Qm 30)]))]
def f78_c8 : MC := .reg false f78_r8
def f78_r9 : List MO := [
(Qa (Qu 32) (Qc (Qm 10))),
(Qa (Qu 33) (Qc (Qm 11))),
(Qa (Qu 34) (Qd Qs Go.BinOp.sub (Qm 32) (Qm 33))),
(Qa (Qu 10) (Qc (Qm 34)))]
def f78_c9 : MC := .reg false f78_r9
def f78_c10 : MC := .seq f78_c8 f78_c9
def f78_r11 : List MO := [
(Qa (Qu 35) (Qc (Qm 0))),
(Qa (Qu 36) (Qc (Qm 2))),
(Qa (Qu 37) (Qc (Qm 10))),
(Qa (Qu 38) (Qd Qs Go.BinOp.sub (Qm 36) (Qm 37))),
(Qa (Qu 39) (Qc (Qm 2))),
(Qa (Qu 40) (Qc (Qm 11))),
(Qa (Qu 41) (Qd Qs Go.BinOp.add (Qm 39) (Qm 40))),
(Qa (Qu 42) (Qc (Qm 10))),
(Qa (Qu 43) (Qd Qs Go.BinOp.sub (Qm 41) (Qm 42))),
(Qa (Qu 44) (Qc (Qm 10))),
(Qa (Qu 45) (Qc (Qm 4))),
(Qa (Qu 46) (Qg 84 [(Qm 35), (Qm 38), (Qm 43), (Qm 44), (Qm 45)]))]
def f78_c11 : MC := .reg false f78_r11
def f78_r12 : List MO := [
(Qa (Qu 47) (Qc (Qm 11))),
(Qa (Qu 48) (Qc (Qm 10))),
(Qa (Qu 49) (Qd Qs Go.BinOp.sub (Qm 47) (Qm 48))),
(Qa (Qu 11) (Qc (Qm 49)))]
def f78_c12 : MC := .reg false f78_r12
def f78_c13 : MC := .seq f78_c11 f78_c12
def f78_c14 : MC := .cond (Qm 23) f78_c10 f78_c13
def f78_c15 : MC := .seq f78_c7 f78_c14
def f78_c16 : MC := .blk 1 f78_c15
def f78_c17 : MC := .seq f78_c6 f78_c16
def f78_c18 : MC := .loop f78_c17
def f78_c19 : MC := .blk 0 f78_c18
def f78_r20 : List MO := [
(Qa (Qu 50) (Qc (Qm 0))),
(Qa (Qu 51) (Qc (Qm 2))),
(Qa (Qu 52) (Qc (Qm 10))),
(Qa (Qu 53) (Qd Qs Go.BinOp.sub (Qm 51) (Qm 52))),
(Qa (Qu 54) (Qc (Qm 2))),
(Qa (Qu 55) (Qc (Qm 10))),
(Qa (Qu 56) (Qc (Qm 4))),
(Qa (Qu 57) (Qg 84 [(Qm 50), (Qm 53), (Qm 54), (Qm 55), (Qm 56)]))]
def f78_c20 : MC := .reg false f78_r20
def f78_c21 : MC := .seq f78_c19 f78_c20
def f78_c22 : MC := .seq f78_c1 f78_c21
def f78_c23 : MC := .seq f78_c0 f78_c22
noncomputable def f78_code : Code := (Go.Proofs.Tryd.f78.body).getD .skip
theorem f78_body : Go.Proofs.Tryd.f78.body = Qu f78_code := by kernel_rfl
theorem f78_tr : trC Go.Proofs.Tryd.prog [] f78_code = Qu f78_c23 := by kernel_rfl
theorem f78_rs : rsOf Go.Proofs.Tryd.prog Go.Proofs.Tryd.f78.results.toList = Qu [] := by kernel_rfl
theorem f78_nt : Go.Proofs.Tryd.f78.ntmps = 58 := by kernel_rfl
theorem f78_ok : callable Go.Proofs.Tryd.prog 78 = true := by kernel_rfl
theorem f78_in {gp : Heap} {args : List V} {res : V} (h : G ⟨Go.Proofs.Tryd.prog, gp, 0, [], fun r c => r = res ∧ c = [], false⟩ [.code f78_c23, .fin] ⟨args ++ List.replicate (58 - args.length) .un, []⟩) : Does Go.Proofs.Tryd.prog gp 78 args res :=
  does_intro f78_ok Go.Proofs.Tryd.func78 f78_body f78_tr f78_rs (by rw [f78_nt]; exact h)
theorem f78_tri {gp : Heap} {args : List V} {pre : List Ch} {R : V → List Ch → Prop} (h : G ⟨Go.Proofs.Tryd.prog, gp, pre.length, [], R, false⟩ [.code f78_c23, .fin] ⟨args ++ List.replicate (58 - args.length) .un, pre⟩) : Tri Go.Proofs.Tryd.prog gp 78 args pre R :=
  tri_intro Go.Proofs.Tryd.func78 f78_body f78_tr f78_rs (by rw [f78_nt]; exact h)

/-! slices.Index[[]bool,bool] -/
def f79_r0 : List MO := [
(Qa (Qu 4) (Qc (Qn (Qo (Qp (Qq Qt 0))))))]
def f79_c0 : MC := .reg false f79_r0
def f79_r1 : List MO := [
(Qa (Qu 6) (Qc (Qm 0))),
(Qa (Qu 7) (Qj Qs (Qm 6))),
(Qa (Qu 8) (Qc (Qn (Qo (Qp (Qq Qt 0))))))]
def f79_c1 : MC := .reg false f79_r1
def f79_r2 : List MO := [
(Qa (Qu 9) (Qd Qs Go.BinOp.lss (Qm 8) (Qm 7)))]
def f79_c2 : MC := .reg false f79_r2
def f79_c3 : MC := MC.skip
def f79_c4 : MC := (MC.exit 0)
def f79_c5 : MC := .cond (Qm 9) f79_c3 f79_c4
def f79_r6 : List MO := [
(Qa (Qu 10) (Qc (Qm 8))),
(Qa (Qu 5) (Qc (Qm 10)))]
def f79_c6 : MC := .reg false f79_r6
def f79_r7 : List MO := [
(Qa (Qu 11) (Qc (Qm 1))),
(Qa (Qu 12) (Qc (Qm 0))),
(Qa (Qu 13) (Qc (Qm 5))),
(Qa (Qu 14) (Qi 1 (Qm 12) (Qm 13))),
(Qa (Qu 15) (Qe 1 false (Qm 14))),
(Qa (Qu 16) (Qd Leaf.b Go.BinOp.eql (Qm 11) (Qm 15)))]
def f79_c7 : MC := .reg false f79_r7
def f79_r8 : List MO := [
(Qa (Qu 17) (Qc (Qm 5))),
(Qa (Qu 4) (Qc (Qm 17)))]
def f79_c8 : MC := .reg false f79_r8
def f79_c9 : MC := MC.ret
def f79_c10 : MC := .seq f79_c8 f79_c9
def f79_c11 : MC := MC.skip
def f79_c12 : MC := .cond (Qm 16) f79_c10 f79_c11
def f79_c13 : MC := .seq f79_c7 f79_c12
def f79_c14 : MC := .seq f79_c6 f79_c13
def f79_c15 : MC := .blk 1 f79_c14
def f79_r16 : List MO := [
(Qa (Qu 18) (Qd Qs Go.BinOp.add (Qm 8) (Qn (Qo (Qp (Qq Qt 1)))))),
(Qa (Qu 8) (Qc (Qm 18)))]
def f79_c16 : MC := .reg false f79_r16
def f79_c17 : MC := .seq f79_c15 f79_c16
def f79_c18 : MC := .seq f79_c5 f79_c17
def f79_c19 : MC := .seq f79_c2 f79_c18
def f79_c20 : MC := .loop f79_c19
def f79_c21 : MC := .blk 0 f79_c20
def f79_c22 : MC := .seq f79_c1 f79_c21
def f79_r23 : List MO := [
(Qa (Qu 4) (Qc (Qn (Qo (Qp (Qq Qt (-1)))))))]
def f79_c23 : MC := .reg false f79_r23
def f79_c24 : MC := MC.ret
def f79_c25 : MC := .seq f79_c23 f79_c24
def f79_c26 : MC := .seq f79_c22 f79_c25
def f79_c27 : MC := .seq f79_c0 f79_c26
noncomputable def f79_code : Code := (Go.Proofs.Tryd.f79.body).getD .skip
theorem f79_body : Go.Proofs.Tryd.f79.body = Qu f79_code := by kernel_rfl
theorem f79_tr : trC Go.Proofs.Tryd.prog [] f79_code = Qu f79_c27 := by kernel_rfl
theorem f79_rs : rsOf Go.Proofs.Tryd.prog Go.Proofs.Tryd.f79.results.toList = Qu [(RV.t 4)] := by kernel_rfl
theorem f79_nt : Go.Proofs.Tryd.f79.ntmps = 19 := by kernel_rfl
theorem f79_ok : callable Go.Proofs.Tryd.prog 79 = true := by kernel_rfl
theorem f79_in {gp : Heap} {args : List V} {res : V} (h : G ⟨Go.Proofs.Tryd.prog, gp, 0, [(RV.t 4)], fun r c => r = res ∧ c = [], false⟩ [.code f79_c27, .fin] ⟨args ++ List.replicate (19 - args.length) .un, []⟩) : Does Go.Proofs.Tryd.prog gp 79 args res :=
  does_intro f79_ok Go.Proofs.Tryd.func79 f79_body f79_tr f79_rs (by rw [f79_nt]; exact h)
theorem f79_tri {gp : Heap} {args : List V} {pre : List Ch} {R : V → List Ch → Prop} (h : G ⟨Go.Proofs.Tryd.prog, gp, pre.length, [(RV.t 4)], R, false⟩ [.code f79_c27, .fin] ⟨args ++ List.replicate (19 - args.length) .un, pre⟩) : Tri Go.Proofs.Tryd.prog gp 79 args pre R :=
  tri_intro Go.Proofs.Tryd.func79 f79_body f79_tr f79_rs (by rw [f79_nt]; exact h)

/-! unicode/utf8.DecodeRuneInString -/
def f80_r0 : List MO := [
(Qa (Qu 2) (Qc (Qn (Qo (Qp (Qq Go.IntKind.i32 0)))))),
(Qa (Qu 3) (Qc (Qn (Qo (Qp (Qq Qt 0))))))]
def f80_c0 : MC := .reg false f80_r0
def f80_r1 : List MO := [
(Qa (Qu 4) (Qc (Qm 0))),
(Qa (Qu 5) (Qd Leaf.s Go.BinOp.neq (Qm 4) (Qn (Qo (Qp (D.str (ByteArray.mk #[]))))))),
(Qa (Qu 6) (Qc (Qm 5))),
(Qb 6 true (Qu 7)),
(Qa (Qu 7) (Qc (Qm 0))),
(Qb 6 true (Qu 8)),
(Qa (Qu 8) (MOp.idxS (Qm 7) (Qn (Qo (Qp (Qq Qt 0)))))),
(Qb 6 true (Qu 9)),
(Qa (Qu 9) (Qd Qs Go.BinOp.lss (Qm 8) (Qn (Qo (Qp (Qq Go.IntKind.u8 128)))))),
(Qa (Qu 10) (Ql (Qm 6) (Qm 9) (Qn (Qo (Qp (Qr false))))))]
def f80_c1 : MC := .reg false f80_r1
def f80_r2 : List MO := [
(Qa (Qu 11) (Qc (Qm 0))),
(Qa (Qu 12) (MOp.idxS (Qm 11) (Qn (Qo (Qp (Qq Qt 0)))))),
(Qa (Qu 13) (MOp.conv Go.IntKind.i32 (Qm 12))),
(Qa (Qu 2) (Qc (Qm 13))),
(Qa (Qu 3) (Qc (Qn (Qo (Qp (Qq Qt 1))))))]
def f80_c2 : MC := .reg false f80_r2
def f80_c3 : MC := MC.ret
def f80_c4 : MC := .seq f80_c2 f80_c3
def f80_r5 : List MO := [
(Qa (Qu 15) (Qc (Qm 0))),
(Qa (Qu 16) (Qg 85 [(Qm 15)])),
(Qa (Qu 14) (Qc (Qm 16))),
(Qa (Qu 17) (Qh (Qm 14) 0)),
(Qa (Qu 18) (Qh (Qm 14) 1)),
(Qa (Qu 2) (Qc (Qm 17))),
(Qa (Qu 3) (Qc (Qm 18)))]
def f80_c5 : MC := .reg false f80_r5
def f80_c6 : MC := .cond (Qm 10) f80_c4 f80_c5
def f80_c7 : MC := .seq f80_c1 f80_c6
def f80_c8 : MC := MC.ret
def f80_c9 : MC := .seq f80_c7 f80_c8
def f80_c10 : MC := .seq f80_c0 f80_c9
noncomputable def f80_code : Code := (Go.Proofs.Tryd.f80.body).getD .skip
theorem f80_body : Go.Proofs.Tryd.f80.body = Qu f80_code := by kernel_rfl
theorem f80_tr : trC Go.Proofs.Tryd.prog [] f80_code = Qu f80_c10 := by kernel_rfl
theorem f80_rs : rsOf Go.Proofs.Tryd.prog Go.Proofs.Tryd.f80.results.toList = Qu [(RV.t 2), (RV.t 3)] := by kernel_rfl
theorem f80_nt : Go.Proofs.Tryd.f80.ntmps = 19 := by kernel_rfl
theorem f80_ok : callable Go.Proofs.Tryd.prog 80 = true := by kernel_rfl
theorem f80_in {gp : Heap} {args : List V} {res : V} (h : G ⟨Go.Proofs.Tryd.prog, gp, 0, [(RV.t 2), (RV.t 3)], fun r c => r = res ∧ c = [], false⟩ [.code f80_c10, .fin] ⟨args ++ List.replicate (19 - args.length) .un, []⟩) : Does Go.Proofs.Tryd.prog gp 80 args res :=
  does_intro f80_ok Go.Proofs.Tryd.func80 f80_body f80_tr f80_rs (by rw [f80_nt]; exact h)
theorem f80_tri {gp : Heap} {args : List V} {pre : List Ch} {R : V → List Ch → Prop} (h : G ⟨Go.Proofs.Tryd.prog, gp, pre.length, [(RV.t 2), (RV.t 3)], R, false⟩ [.code f80_c10, .fin] ⟨args ++ List.replicate (19 - args.length) .un, pre⟩) : Tri Go.Proofs.Tryd.prog gp 80 args pre R :=
  tri_intro Go.Proofs.Tryd.func80 f80_body f80_tr f80_rs (by rw [f80_nt]; exact h)

/-! slices.IndexFunc[[]int,int] -/
def f81_r0 : List MO := [
(Qa (Qu 4) (Qc (Qn (Qo (Qp (Qq Qt 0))))))]
def f81_c0 : MC := .reg false f81_r0
def f81_r1 : List MO := [
(Qa (Qu 6) (Qc (Qm 0))),
(Qa (Qu 7) (Qj Qs (Qm 6))),
(Qa (Qu 8) (Qc (Qn (Qo (Qp (Qq Qt 0))))))]
def f81_c1 : MC := .reg false f81_r1
def f81_r2 : List MO := [
(Qa (Qu 9) (Qd Qs Go.BinOp.lss (Qm 8) (Qm 7)))]
def f81_c2 : MC := .reg false f81_r2
def f81_c3 : MC := MC.skip
def f81_c4 : MC := (MC.exit 0)
def f81_c5 : MC := .cond (Qm 9) f81_c3 f81_c4
def f81_r6 : List MO := [
(Qa (Qu 10) (Qc (Qm 8))),
(Qa (Qu 5) (Qc (Qm 10)))]
def f81_c6 : MC := .reg false f81_r6
def f81_r7 : List MO := [
(Qa (Qu 11) (Qc (Qm 1))),
(Qa (Qu 12) (Qc (Qm 0))),
(Qa (Qu 13) (Qc (Qm 5))),
(Qa (Qu 14) (Qi 1 (Qm 12) (Qm 13))),
(Qa (Qu 15) (Qe 1 false (Qm 14))),
(Qa (Qu 16) (MOp.callv (Qm 11) [(Qm 15)]))]
def f81_c7 : MC := .reg false f81_r7
def f81_r8 : List MO := [
(Qa (Qu 17) (Qc (Qm 5))),
(Qa (Qu 4) (Qc (Qm 17)))]
def f81_c8 : MC := .reg false f81_r8
def f81_c9 : MC := MC.ret
def f81_c10 : MC := .seq f81_c8 f81_c9
def f81_c11 : MC := MC.skip
def f81_c12 : MC := .cond (Qm 16) f81_c10 f81_c11
def f81_c13 : MC := .seq f81_c7 f81_c12
def f81_c14 : MC := .seq f81_c6 f81_c13
def f81_c15 : MC := .blk 1 f81_c14
def f81_r16 : List MO := [
(Qa (Qu 18) (Qd Qs Go.BinOp.add (Qm 8) (Qn (Qo (Qp (Qq Qt 1)))))),
(Qa (Qu 8) (Qc (Qm 18)))]
def f81_c16 : MC := .reg false f81_r16
def f81_c17 : MC := .seq f81_c15 f81_c16
def f81_c18 : MC := .seq f81_c5 f81_c17
def f81_c19 : MC := .seq f81_c2 f81_c18
def f81_c20 : MC := .loop f81_c19
def f81_c21 : MC := .blk 0 f81_c20
def f81_c22 : MC := .seq f81_c1 f81_c21
def f81_r23 : List MO := [
(Qa (Qu 4) (Qc (Qn (Qo (Qp (Qq Qt (-1)))))))]
def f81_c23 : MC := .reg false f81_r23
def f81_c24 : MC := MC.ret
def f81_c25 : MC := .seq f81_c23 f81_c24
def f81_c26 : MC := .seq f81_c22 f81_c25
def f81_c27 : MC := .seq f81_c0 f81_c26
noncomputable def f81_code : Code := (Go.Proofs.Tryd.f81.body).getD .skip
theorem f81_body : Go.Proofs.Tryd.f81.body = Qu f81_code := by kernel_rfl
theorem f81_tr : trC Go.Proofs.Tryd.prog [] f81_code = Qu f81_c27 := by kernel_rfl
theorem f81_rs : rsOf Go.Proofs.Tryd.prog Go.Proofs.Tryd.f81.results.toList = Qu [(RV.t 4)] := by kernel_rfl
theorem f81_nt : Go.Proofs.Tryd.f81.ntmps = 19 := by kernel_rfl
theorem f81_ok : callable Go.Proofs.Tryd.prog 81 = true := by kernel_rfl
theorem f81_in {gp : Heap} {args : List V} {res : V} (h : G ⟨Go.Proofs.Tryd.prog, gp, 0, [(RV.t 4)], fun r c => r = res ∧ c = [], false⟩ [.code f81_c27, .fin] ⟨args ++ List.replicate (19 - args.length) .un, []⟩) : Does Go.Proofs.Tryd.prog gp 81 args res :=
  does_intro f81_ok Go.Proofs.Tryd.func81 f81_body f81_tr f81_rs (by rw [f81_nt]; exact h)
theorem f81_tri {gp : Heap} {args : List V} {pre : List Ch} {R : V → List Ch → Prop} (h : G ⟨Go.Proofs.Tryd.prog, gp, pre.length, [(RV.t 4)], R, false⟩ [.code f81_c27, .fin] ⟨args ++ List.replicate (19 - args.length) .un, pre⟩) : Tri Go.Proofs.Tryd.prog gp 81 args pre R :=
  tri_intro Go.Proofs.Tryd.func81 f81_body f81_tr f81_rs (by rw [f81_nt]; exact h)

/-! slices.IndexFunc[[]sigillary/api.Scalar,sigillary/api.Scalar] -/
def f82_r0 : List MO := [
(Qa (Qu 4) (Qc (Qn (Qo (Qp (Qq Qt 0))))))]
def f82_c0 : MC := .reg false f82_r0
def f82_r1 : List MO := [
(Qa (Qu 6) (Qc (Qm 0))),
(Qa (Qu 7) (Qj Qs (Qm 6))),
(Qa (Qu 8) (Qc (Qn (Qo (Qp (Qq Qt 0))))))]
def f82_c1 : MC := .reg false f82_r1
def f82_r2 : List MO := [
(Qa (Qu 9) (Qd Qs Go.BinOp.lss (Qm 8) (Qm 7)))]
def f82_c2 : MC := .reg false f82_r2
def f82_c3 : MC := MC.skip
def f82_c4 : MC := (MC.exit 0)
def f82_c5 : MC := .cond (Qm 9) f82_c3 f82_c4
def f82_r6 : List MO := [
(Qa (Qu 10) (Qc (Qm 8))),
(Qa (Qu 5) (Qc (Qm 10)))]
def f82_c6 : MC := .reg false f82_r6
def f82_r7 : List MO := [
(Qa (Qu 11) (Qc (Qm 1))),
(Qa (Qu 12) (Qc (Qm 0))),
(Qa (Qu 13) (Qc (Qm 5))),
(Qa (Qu 14) (Qi 3 (Qm 12) (Qm 13))),
(Qa (Qu 15) (Qe 3 true (Qm 14))),
(Qa (Qu 16) (MOp.callv (Qm 11) [(Qm 15)]))]
def f82_c7 : MC := .reg false f82_r7
def f82_r8 : List MO := [
(Qa (Qu 17) (Qc (Qm 5))),
(Qa (Qu 4) (Qc (Qm 17)))]
def f82_c8 : MC := .reg false f82_r8
def f82_c9 : MC := MC.ret
def f82_c10 : MC := .seq f82_c8 f82_c9
def f82_c11 : MC := MC.skip
def f82_c12 : MC := .cond (Qm 16) f82_c10 f82_c11
def f82_c13 : MC := .seq f82_c7 f82_c12
def f82_c14 : MC := .seq f82_c6 f82_c13
def f82_c15 : MC := .blk 1 f82_c14
def f82_r16 : List MO := [
(Qa (Qu 18) (Qd Qs Go.BinOp.add (Qm 8) (Qn (Qo (Qp (Qq Qt 1)))))),
(Qa (Qu 8) (Qc (Qm 18)))]
def f82_c16 : MC := .reg false f82_r16
def f82_c17 : MC := .seq f82_c15 f82_c16
def f82_c18 : MC := .seq f82_c5 f82_c17
def f82_c19 : MC := .seq f82_c2 f82_c18
def f82_c20 : MC := .loop f82_c19
def f82_c21 : MC := .blk 0 f82_c20
def f82_c22 : MC := .seq f82_c1 f82_c21
def f82_r23 : List MO := [
(Qa (Qu 4) (Qc (Qn (Qo (Qp (Qq Qt (-1)))))))]
def f82_c23 : MC := .reg false f82_r23
def f82_c24 : MC := MC.ret
def f82_c25 : MC := .seq f82_c23 f82_c24
def f82_c26 : MC := .seq f82_c22 f82_c25
def f82_c27 : MC := .seq f82_c0 f82_c26
noncomputable def f82_code : Code := (Go.Proofs.Tryd.f82.body).getD .skip
theorem f82_body : Go.Proofs.Tryd.f82.body = Qu f82_code := by kernel_rfl
theorem f82_tr : trC Go.Proofs.Tryd.prog [] f82_code = Qu f82_c27 := by kernel_rfl
theorem f82_rs : rsOf Go.Proofs.Tryd.prog Go.Proofs.Tryd.f82.results.toList = Qu [(RV.t 4)] := by kernel_rfl
theorem f82_nt : Go.Proofs.Tryd.f82.ntmps = 19 := by kernel_rfl
theorem f82_ok : callable Go.Proofs.Tryd.prog 82 = true := by kernel_rfl
theorem f82_in {gp : Heap} {args : List V} {res : V} (h : G ⟨Go.Proofs.Tryd.prog, gp, 0, [(RV.t 4)], fun r c => r = res ∧ c = [], false⟩ [.code f82_c27, .fin] ⟨args ++ List.replicate (19 - args.length) .un, []⟩) : Does Go.Proofs.Tryd.prog gp 82 args res :=
  does_intro f82_ok Go.Proofs.Tryd.func82 f82_body f82_tr f82_rs (by rw [f82_nt]; exact h)
theorem f82_tri {gp : Heap} {args : List V} {pre : List Ch} {R : V → List Ch → Prop} (h : G ⟨Go.Proofs.Tryd.prog, gp, pre.length, [(RV.t 4)], R, false⟩ [.code f82_c27, .fin] ⟨args ++ List.replicate (19 - args.length) .un, pre⟩) : Tri Go.Proofs.Tryd.prog gp 82 args pre R :=
  tri_intro Go.Proofs.Tryd.func82 f82_body f82_tr f82_rs (by rw [f82_nt]; exact h)

/-! sigillary/scal.fresh -/
def f83_r0 : List MO := [
(Qa (Qu 1) (MOp.ibox (Qm 0))),
(Qa (Qu 2) (Qc (Qn (Qo (Qp D.nilF)))))]
def f83_c0 : MC := .reg false f83_r0
def f83_r1 : List MO := [
(Qa (Qu 3) (MOp.mkF (Go.Fn.func 86) [(Qm 1)])),
(Qa (Qu 2) (Qc (Qm 3)))]
def f83_c1 : MC := .reg false f83_r1
def f83_c2 : MC := MC.ret
def f83_c3 : MC := .seq f83_c1 f83_c2
def f83_c4 : MC := .seq f83_c0 f83_c3
noncomputable def f83_code : Code := (Go.Proofs.Tryd.f83.body).getD .skip
theorem f83_body : Go.Proofs.Tryd.f83.body = Qu f83_code := by kernel_rfl
theorem f83_tr : trC Go.Proofs.Tryd.prog [1] f83_code = Qu f83_c4 := by kernel_rfl
theorem f83_rs : rsOf Go.Proofs.Tryd.prog Go.Proofs.Tryd.f83.results.toList = Qu [(RV.t 2)] := by kernel_rfl
theorem f83_nt : Go.Proofs.Tryd.f83.ntmps = 4 := by kernel_rfl
theorem f83_ok : callable Go.Proofs.Tryd.prog 83 = true := by kernel_rfl
theorem f83_in {gp : Heap} {args : List V} {res : V} (h : G ⟨Go.Proofs.Tryd.prog, gp, 0, [(RV.t 2)], fun r c => r = res ∧ c = [], false⟩ [.code f83_c4, .fin] ⟨args ++ List.replicate (4 - args.length) .un, []⟩) : Does Go.Proofs.Tryd.prog gp 83 args res :=
  does_intro f83_ok Go.Proofs.Tryd.func83 f83_body f83_tr f83_rs (by rw [f83_nt]; exact h)
theorem f83_tri {gp : Heap} {args : List V} {pre : List Ch} {R : V → List Ch → Prop} (h : G ⟨Go.Proofs.Tryd.prog, gp, pre.length, [(RV.t 2)], R, false⟩ [.code f83_c4, .fin] ⟨args ++ List.replicate (4 - args.length) .un, pre⟩) : Tri Go.Proofs.Tryd.prog gp 83 args pre R :=
  tri_intro Go.Proofs.Tryd.func83 f83_body f83_tr f83_rs (by rw [f83_nt]; exact h)

/-! slices.swapRangeCmpFunc[sigillary/arena.pair] -/
def f84_r0 : List MO := [
(Qa (Qu 10) (Qc (Qn (Qo (Qp (Qq Qt 0))))))]
def f84_c0 : MC := .reg false f84_r0
def f84_r1 : List MO := [
(Qa (Qu 11) (Qc (Qm 10))),
(Qa (Qu 12) (Qc (Qm 3))),
(Qa (Qu 13) (Qd Qs Go.BinOp.lss (Qm 11) (Qm 12)))]
def f84_c1 : MC := .reg false f84_r1
def f84_c2 : MC := MC.skip
def f84_c3 : MC := (MC.exit 0)
def f84_c4 : MC := .cond (Qm 13) f84_c2 f84_c3
def f84_c5 : MC := .seq f84_c1 f84_c4
def f84_r6 : List MO := [
(Qa (Qu 16) (Qc (Qm 0))),
(Qa (Qu 17) (Qc (Qm 1))),
(Qa (Qu 18) (Qc (Qm 10))),
(Qa (Qu 19) (Qd Qs Go.BinOp.add (Qm 17) (Qm 18))),
(Qa (Qu 20) (Qc (Qm 0))),
(Qa (Qu 21) (Qc (Qm 2))),
(Qa (Qu 22) (Qc (Qm 10))),
(Qa (Qu 23) (Qd Qs Go.BinOp.add (Qm 21) (Qm 22))),
(Qa (Qu 24) (Qc (Qm 0))),
(Qa (Qu 25) (Qc (Qm 2))),
(Qa (Qu 26) (Qc (Qm 10))),
(Qa (Qu 27) (Qd Qs Go.BinOp.add (Qm 25) (Qm 26))),
(Qa (Qu 28) (Qi 4 (Qm 24) (Qm 27))),
(Qa (Qu 29) (Qe 4 true (Qm 28))),
(Qa (Qu 30) (Qc (Qm 0))),
(Qa (Qu 31) (Qc (Qm 1))),
(Qa (Qu 32) (Qc (Qm 10))),
(Qa (Qu 33) (Qd Qs Go.BinOp.add (Qm 31) (Qm 32))),
(Qa (Qu 34) (Qi 4 (Qm 30) (Qm 33))),
(Qa (Qu 35) (Qe 4 true (Qm 34))),
(Qa (Qu 36) (Qi 4 (Qm 16) (Qm 19))),
(Qa none (Qk 4 (Qm 36) (Qm 29))),
(Qa (Qu 37) (Qi 4 (Qm 20) (Qm 23))),
(Qa none (Qk 4 (Qm 37) (Qm 35)))]
def f84_c6 : MC := .reg true f84_r6
def f84_c7 : MC := .blk 1 f84_c6
def f84_r8 : List MO := [
(Qa (Qu 14) (Qc (Qm 10))),
(Qa (Qu 15) (Qd Qs Go.BinOp.add (Qm 14) (Qn (Qo (Qp (Qq Qt 1)))))),
(Qa (Qu 10) (Qc (Qm 15)))]
def f84_c8 : MC := .reg false f84_r8
def f84_c9 : MC := .seq f84_c7 f84_c8
def f84_c10 : MC := .seq f84_c5 f84_c9
def f84_c11 : MC := .loop f84_c10
def f84_c12 : MC := .blk 0 f84_c11
def f84_c13 : MC := .seq f84_c0 f84_c12
noncomputable def f84_code : Code := (Go.Proofs.Tryd.f84.body).getD .skip
theorem f84_body : Go.Proofs.Tryd.f84.body = Qu f84_code := by kernel_rfl
theorem f84_tr : trC Go.Proofs.Tryd.prog [] f84_code = Qu f84_c13 := by kernel_rfl
theorem f84_rs : rsOf Go.Proofs.Tryd.prog Go.Proofs.Tryd.f84.results.toList = Qu [] := by kernel_rfl
theorem f84_nt : Go.Proofs.Tryd.f84.ntmps = 38 := by kernel_rfl
theorem f84_ok : callable Go.Proofs.Tryd.prog 84 = true := by kernel_rfl
theorem f84_in {gp : Heap} {args : List V} {res : V} (h : G ⟨Go.Proofs.Tryd.prog, gp, 0, [], fun r c => r = res ∧ c = [], false⟩ [.code f84_c13, .fin] ⟨args ++ List.replicate (38 - args.length) .un, []⟩) : Does Go.Proofs.Tryd.prog gp 84 args res :=
  does_intro f84_ok Go.Proofs.Tryd.func84 f84_body f84_tr f84_rs (by rw [f84_nt]; exact h)
theorem f84_tri {gp : Heap} {args : List V} {pre : List Ch} {R : V → List Ch → Prop} (h : G ⟨Go.Proofs.Tryd.prog, gp, pre.length, [], R, false⟩ [.code f84_c13, .fin] ⟨args ++ List.replicate (38 - args.length) .un, pre⟩) : Tri Go.Proofs.Tryd.prog gp 84 args pre R :=
  tri_intro Go.Proofs.Tryd.func84 f84_body f84_tr f84_rs (by rw [f84_nt]; exact h)

/-! unicode/utf8.decodeRuneInStringSlow -/
def f85_r0 : List MO := [
(Qa (Qu 2) (Qc (Qn (Qo (Qp (Qq Go.IntKind.i32 0)))))),
(Qa (Qu 3) (Qc (Qn (Qo (Qp (Qq Qt 0))))))]
def f85_c0 : MC := .reg false f85_r0
def f85_r1 : List MO := [
(Qa (Qu 13) (Qc (Qm 0))),
(Qa (Qu 14) (Qj Leaf.s (Qm 13))),
(Qa (Qu 4) (Qc (Qm 14)))]
def f85_c1 : MC := .reg false f85_r1
def f85_r2 : List MO := [
(Qa (Qu 15) (Qc (Qm 4))),
(Qa (Qu 16) (Qd Qs Go.BinOp.lss (Qm 15) (Qn (Qo (Qp (Qq Qt 1))))))]
def f85_c2 : MC := .reg false f85_r2
def f85_r3 : List MO := [
(Qa (Qu 2) (Qc (Qn (Qo (Qp (Qq Go.IntKind.i32 65533)))))),
(Qa (Qu 3) (Qc (Qn (Qo (Qp (Qq Qt 0))))))]
def f85_c3 : MC := .reg false f85_r3
def f85_c4 : MC := MC.ret
def f85_c5 : MC := .seq f85_c3 f85_c4
def f85_c6 : MC := MC.skip
def f85_c7 : MC := .cond (Qm 16) f85_c5 f85_c6
def f85_c8 : MC := .seq f85_c2 f85_c7
def f85_r9 : List MO := [
(Qa (Qu 17) (Qc (Qm 0))),
(Qa (Qu 18) (MOp.idxS (Qm 17) (Qn (Qo (Qp (Qq Qt 0)))))),
(Qa (Qu 5) (Qc (Qm 18)))]
def f85_c9 : MC := .reg false f85_r9
def f85_r10 : List MO := [
(Qa (Qu 19) (Qc (Qm 5))),
(Qa (Qu 20) (MOp.iadA 256 1 (Qn (Qo (Qp (D.raw (Go.Value.pointer (Qu (Go.Addr.mk 1 0 none))))))) (Qm 19))),
(Qa (Qu 21) (Qe 1 false (Qm 20))),
(Qa (Qu 6) (Qc (Qm 21)))]
def f85_c10 : MC := .reg false f85_r10
def f85_r11 : List MO := [
(Qa (Qu 22) (Qc (Qm 6))),
(Qa (Qu 23) (Qd Qs Go.BinOp.geq (Qm 22) (Qn (Qo (Qp (Qq Go.IntKind.u8 240))))))]
def f85_c11 : MC := .reg false f85_r11
def f85_r12 : List MO := [
(Qa (Qu 24) (Qc (Qm 6))),
(Qa (Qu 25) (MOp.conv Go.IntKind.i32 (Qm 24))),
(Qa (Qu 26) (Qd Qs Go.BinOp.shl (Qm 25) (Qn (Qo (Qp (Qq Go.IntKind.u64 31)))))),
(Qa (Qu 27) (Qd Qs Go.BinOp.shr (Qm 26) (Qn (Qo (Qp (Qq Go.IntKind.u64 31)))))),
(Qa (Qu 7) (Qc (Qm 27)))]
def f85_c12 : MC := .reg false f85_r12
def f85_r13 : List MO := [
(Qa (Qu 28) (Qc (Qm 0))),
(Qa (Qu 29) (MOp.idxS (Qm 28) (Qn (Qo (Qp (Qq Qt 0)))))),
(Qa (Qu 30) (MOp.conv Go.IntKind.i32 (Qm 29))),
(Qa (Qu 31) (Qc (Qm 7))),
(Qa (Qu 32) (Qd Qs Go.BinOp.andNot (Qm 30) (Qm 31))),
(Qa (Qu 33) (Qc (Qm 7))),
(Qa (Qu 34) (Qd Qs Go.BinOp.and (Qn (Qo (Qp (Qq Go.IntKind.i32 65533)))) (Qm 33))),
(Qa (Qu 35) (Qd Qs Go.BinOp.or (Qm 32) (Qm 34))),
(Qa (Qu 2) (Qc (Qm 35))),
(Qa (Qu 3) (Qc (Qn (Qo (Qp (Qq Qt 1))))))]
def f85_c13 : MC := .reg false f85_r13
def f85_c14 : MC := MC.ret
def f85_c15 : MC := .seq f85_c13 f85_c14
def f85_c16 : MC := .seq f85_c12 f85_c15
def f85_c17 : MC := MC.skip
def f85_c18 : MC := .cond (Qm 23) f85_c16 f85_c17
def f85_c19 : MC := .seq f85_c11 f85_c18
def f85_r20 : List MO := [
(Qa (Qu 36) (Qc (Qm 6))),
(Qa (Qu 37) (Qd Qs Go.BinOp.and (Qm 36) (Qn (Qo (Qp (Qq Go.IntKind.u8 7)))))),
(Qa (Qu 38) (MOp.conv Qt (Qm 37))),
(Qa (Qu 8) (Qc (Qm 38)))]
def f85_c20 : MC := .reg false f85_r20
def f85_r21 : List MO := [
(Qa (Qu 39) (Qc (Qm 6))),
(Qa (Qu 40) (Qd Qs Go.BinOp.shr (Qm 39) (Qn (Qo (Qp (Qq Go.IntKind.u64 4)))))),
(Qa (Qu 41) (MOp.iadA 16 2 (Qn (Qo (Qp (D.raw (Go.Value.pointer (Qu (Go.Addr.mk 2 0 none))))))) (Qm 40))),
(Qa (Qu 42) (Qe 2 true (Qm 41))),
(Qa (Qu 9) (MOp.alloc [(Qq Go.IntKind.u8 0), (Qq Go.IntKind.u8 0)])),
(Qa none (Qk 2 (Qm 9) (Qm 42)))]
def f85_c21 : MC := .reg false f85_r21
def f85_r22 : List MO := [
(Qa (Qu 43) (Qc (Qm 4))),
(Qa (Qu 44) (Qc (Qm 8))),
(Qa (Qu 45) (Qd Qs Go.BinOp.lss (Qm 43) (Qm 44)))]
def f85_c22 : MC := .reg false f85_r22
def f85_r23 : List MO := [
(Qa (Qu 2) (Qc (Qn (Qo (Qp (Qq Go.IntKind.i32 65533)))))),
(Qa (Qu 3) (Qc (Qn (Qo (Qp (Qq Qt 1))))))]
def f85_c23 : MC := .reg false f85_r23
def f85_c24 : MC := MC.ret
def f85_c25 : MC := .seq f85_c23 f85_c24
def f85_c26 : MC := MC.skip
def f85_c27 : MC := .cond (Qm 45) f85_c25 f85_c26
def f85_c28 : MC := .seq f85_c22 f85_c27
def f85_r29 : List MO := [
(Qa (Qu 46) (Qc (Qm 0))),
(Qa (Qu 47) (MOp.idxS (Qm 46) (Qn (Qo (Qp (Qq Qt 1)))))),
(Qa (Qu 10) (Qc (Qm 47)))]
def f85_c29 : MC := .reg false f85_r29
def f85_r30 : List MO := [
(Qa (Qu 48) (Qc (Qm 10))),
(Qa (Qu 49) (Qf 0 (Qm 9))),
(Qa (Qu 50) (Qe 1 false (Qm 49))),
(Qa (Qu 51) (Qd Qs Go.BinOp.lss (Qm 48) (Qm 50))),
(Qa (Qu 52) (Qc (Qm 51))),
(Qb 52 false (Qu 53)),
(Qa (Qu 53) (Qf 1 (Qm 9))),
(Qb 52 false (Qu 54)),
(Qa (Qu 54) (Qe 1 false (Qm 53))),
(Qb 52 false (Qu 55)),
(Qa (Qu 55) (Qc (Qm 10))),
(Qb 52 false (Qu 56)),
(Qa (Qu 56) (Qd Qs Go.BinOp.lss (Qm 54) (Qm 55))),
(Qa (Qu 57) (Ql (Qm 52) (Qn (Qo (Qp (Qr true)))) (Qm 56)))]
def f85_c30 : MC := .reg false f85_r30
def f85_r31 : List MO := [
(Qa (Qu 2) (Qc (Qn (Qo (Qp (Qq Go.IntKind.i32 65533)))))),
(Qa (Qu 3) (Qc (Qn (Qo (Qp (Qq Qt 1))))))]
def f85_c31 : MC := .reg false f85_r31
def f85_c32 : MC := MC.ret
def f85_c33 : MC := .seq f85_c31 f85_c32
def f85_c34 : MC := MC.skip
def f85_c35 : MC := .cond (Qm 57) f85_c33 f85_c34
def f85_c36 : MC := .seq f85_c30 f85_c35
def f85_r37 : List MO := [
(Qa (Qu 58) (Qc (Qm 8))),
(Qa (Qu 59) (Qd Qs Go.BinOp.leq (Qm 58) (Qn (Qo (Qp (Qq Qt 2))))))]
def f85_c37 : MC := .reg false f85_r37
def f85_r38 : List MO := [
(Qa (Qu 60) (Qc (Qm 5))),
(Qa (Qu 61) (Qd Qs Go.BinOp.and (Qm 60) (Qn (Qo (Qp (Qq Go.IntKind.u8 31)))))),
(Qa (Qu 62) (MOp.conv Go.IntKind.i32 (Qm 61))),
(Qa (Qu 63) (Qd Qs Go.BinOp.shl (Qm 62) (Qn (Qo (Qp (Qq Go.IntKind.u64 6)))))),
(Qa (Qu 64) (Qc (Qm 10))),
(Qa (Qu 65) (Qd Qs Go.BinOp.and (Qm 64) (Qn (Qo (Qp (Qq Go.IntKind.u8 63)))))),
(Qa (Qu 66) (MOp.conv Go.IntKind.i32 (Qm 65))),
(Qa (Qu 67) (Qd Qs Go.BinOp.or (Qm 63) (Qm 66))),
(Qa (Qu 2) (Qc (Qm 67))),
(Qa (Qu 3) (Qc (Qn (Qo (Qp (Qq Qt 2))))))]
def f85_c38 : MC := .reg false f85_r38
def f85_c39 : MC := MC.ret
def f85_c40 : MC := .seq f85_c38 f85_c39
def f85_c41 : MC := MC.skip
def f85_c42 : MC := .cond (Qm 59) f85_c40 f85_c41
def f85_c43 : MC := .seq f85_c37 f85_c42
def f85_r44 : List MO := [
(Qa (Qu 68) (Qc (Qm 0))),
(Qa (Qu 69) (MOp.idxS (Qm 68) (Qn (Qo (Qp (Qq Qt 2)))))),
(Qa (Qu 11) (Qc (Qm 69)))]
def f85_c44 : MC := .reg false f85_r44
def f85_r45 : List MO := [
(Qa (Qu 70) (Qc (Qm 11))),
(Qa (Qu 71) (Qd Qs Go.BinOp.lss (Qm 70) (Qn (Qo (Qp (Qq Go.IntKind.u8 128)))))),
(Qa (Qu 72) (Qc (Qm 71))),
(Qb 72 false (Qu 73)),
(Qa (Qu 73) (Qc (Qm 11))),
(Qb 72 false (Qu 74)),
(Qa (Qu 74) (Qd Qs Go.BinOp.lss (Qn (Qo (Qp (Qq Go.IntKind.u8 191)))) (Qm 73))),
(Qa (Qu 75) (Ql (Qm 72) (Qn (Qo (Qp (Qr true)))) (Qm 74)))]
def f85_c45 : MC := .reg false f85_r45
def f85_r46 : List MO := [
(Qa (Qu 2) (Qc (Qn (Qo (Qp (Qq Go.IntKind.i32 65533)))))),
(Qa (Qu 3) (Qc (Qn (Qo (Qp (Qq Qt 1))))))]
def f85_c46 : MC := .reg false f85_r46
def f85_c47 : MC := MC.ret
def f85_c48 : MC := .seq f85_c46 f85_c47
def f85_c49 : MC := MC.skip
def f85_c50 : MC := .cond (Qm 75) f85_c48 f85_c49
def f85_c51 : MC := .seq f85_c45 f85_c50
def f85_r52 : List MO := [
(Qa (Qu 76) (Qc (Qm 8))),
(Qa (Qu 77) (Qd Qs Go.BinOp.leq (Qm 76) (Qn (Qo (Qp (Qq Qt 3))))))]
def f85_c52 : MC := .reg false f85_r52
def f85_r53 : List MO := [
(Qa (Qu 78) (Qc (Qm 5))),
(Qa (Qu 79) (Qd Qs Go.BinOp.and (Qm 78) (Qn (Qo (Qp (Qq Go.IntKind.u8 15)))))),
(Qa (Qu 80) (MOp.conv Go.IntKind.i32 (Qm 79))),
(Qa (Qu 81) (Qd Qs Go.BinOp.shl (Qm 80) (Qn (Qo (Qp (Qq Go.IntKind.u64 12)))))),
(Qa (Qu 82) (Qc (Qm 10))),
(Qa (Qu 83) (Qd Qs Go.BinOp.and (Qm 82) (Qn (Qo (Qp (Qq Go.IntKind.u8 63)))))),
(Qa (Qu 84) (MOp.conv Go.IntKind.i32 (Qm 83))),
(Qa (Qu 85) (Qd Qs Go.BinOp.shl (Qm 84) (Qn (Qo (Qp (Qq Go.IntKind.u64 6)))))),
(Qa (Qu 86) (Qd Qs Go.BinOp.or (Qm 81) (Qm 85))),
(Qa (Qu 87) (Qc (Qm 11))),
(Qa (Qu 88) (Qd Qs Go.BinOp.and (Qm 87) (Qn (Qo (Qp (Qq Go.IntKind.u8 63)))))),
(Qa (Qu 89) (MOp.conv Go.IntKind.i32 (Qm 88))),
(Qa (Qu 90) (Qd Qs Go.BinOp.or (Qm 86) (Qm 89))),
(Qa (Qu 2) (Qc (Qm 90))),
(Qa (Qu 3) (Qc (Qn (Qo (Qp (Qq Qt 3))))))]
def f85_c53 : MC := .reg false f85_r53
def f85_c54 : MC := MC.ret
def f85_c55 : MC := .seq f85_c53 f85_c54
def f85_c56 : MC := MC.skip
def f85_c57 : MC := .cond (Qm 77) f85_c55 f85_c56
def f85_c58 : MC := .seq f85_c52 f85_c57
def f85_r59 : List MO := [
(Qa (Qu 91) (Qc (Qm 0))),
(Qa (Qu 92) (MOp.idxS (Qm 91) (Qn (Qo (Qp (Qq Qt 3)))))),
(Qa (Qu 12) (Qc (Qm 92)))]
def f85_c59 : MC := .reg false f85_r59
def f85_r60 : List MO := [
(Qa (Qu 93) (Qc (Qm 12))),
(Qa (Qu 94) (Qd Qs Go.BinOp.lss (Qm 93) (Qn (Qo (Qp (Qq Go.IntKind.u8 128)))))),
(Qa (Qu 95) (Qc (Qm 94))),
(Qb 95 false (Qu 96)),
(Qa (Qu 96) (Qc (Qm 12))),
(Qb 95 false (Qu 97)),
(Qa (Qu 97) (Qd Qs Go.BinOp.lss (Qn (Qo (Qp (Qq Go.IntKind.u8 191)))) (Qm 96))),
(Qa (Qu 98) (Ql (Qm 95) (Qn (Qo (Qp (Qr true)))) (Qm 97)))]
def f85_c60 : MC := .reg false f85_r60
def f85_r61 : List MO := [
(Qa (Qu 2) (Qc (Qn (Qo (Qp (Qq Go.IntKind.i32 65533)))))),
(Qa (Qu 3) (Qc (Qn (Qo (Qp (Qq Qt 1))))))]
def f85_c61 : MC := .reg false f85_r61
def f85_c62 : MC := MC.ret
def f85_c63 : MC := .seq f85_c61 f85_c62
def f85_c64 : MC := MC.skip
def f85_c65 : MC := .cond (Qm 98) f85_c63 f85_c64
def f85_c66 : MC := .seq f85_c60 f85_c65
def f85_r67 : List MO := [
(Qa (Qu 99) (Qc (Qm 5))),
(Qa (Qu 100) (Qd Qs Go.BinOp.and (Qm 99) (Qn (Qo (Qp (Qq Go.IntKind.u8 7)))))),
(Qa (Qu 101) (MOp.conv Go.IntKind.i32 (Qm 100))),
(Qa (Qu 102) (Qd Qs Go.BinOp.shl (Qm 101) (Qn (Qo (Qp (Qq Go.IntKind.u64 18)))))),
(Qa (Qu 103) (Qc (Qm 10))),
(Qa (Qu 104) (Qd Qs Go.BinOp.and (Qm 103) (Qn (Qo (Qp (Qq Go.IntKind.u8 63)))))),
(Qa (Qu 105) (MOp.conv Go.IntKind.i32 (Qm 104))),
(Qa (Qu 106) (Qd Qs Go.BinOp.shl (Qm 105) (Qn (Qo (Qp (Qq Go.IntKind.u64 12)))))),
(Qa (Qu 107) (Qd Qs Go.BinOp.or (Qm 102) (Qm 106))),
(Qa (Qu 108) (Qc (Qm 11))),
(Qa (Qu 109) (Qd Qs Go.BinOp.and (Qm 108) (Qn (Qo (Qp (Qq Go.IntKind.u8 63)))))),
(Qa (Qu 110) (MOp.conv Go.IntKind.i32 (Qm 109))),
(Qa (Qu 111) (Qd Qs Go.BinOp.shl (Qm 110) (Qn (Qo (Qp (Qq Go.IntKind.u64 6)))))),
(Qa (Qu 112) (Qd Qs Go.BinOp.or (Qm 107) (Qm 111))),
(Qa (Qu 113) (Qc (Qm 12))),
(Qa (Qu 114) (Qd Qs Go.BinOp.and (Qm 113) (Qn (Qo (Qp (Qq Go.IntKind.u8 63)))))),
(Qa (Qu 115) (MOp.conv Go.IntKind.i32 (Qm 114))),
(Qa (Qu 116) (Qd Qs Go.BinOp.or (Qm 112) (Qm 115))),
(Qa (Qu 2) (Qc (Qm 116))),
(Qa (Qu 3) (Qc (Qn (Qo (Qp (Qq Qt 4))))))]
def f85_c67 : MC := .reg false f85_r67
def f85_c68 : MC := MC.ret
def f85_c69 : MC := .seq f85_c67 f85_c68
def f85_c70 : MC := .seq f85_c66 f85_c69
def f85_c71 : MC := .seq f85_c59 f85_c70
def f85_c72 : MC := .seq f85_c58 f85_c71
def f85_c73 : MC := .seq f85_c51 f85_c72
def f85_c74 : MC := .seq f85_c44 f85_c73
def f85_c75 : MC := .seq f85_c43 f85_c74
def f85_c76 : MC := .seq f85_c36 f85_c75
def f85_c77 : MC := .seq f85_c29 f85_c76
def f85_c78 : MC := .seq f85_c28 f85_c77
def f85_c79 : MC := .seq f85_c21 f85_c78
def f85_c80 : MC := .seq f85_c20 f85_c79
def f85_c81 : MC := .seq f85_c19 f85_c80
def f85_c82 : MC := .seq f85_c10 f85_c81
def f85_c83 : MC := .seq f85_c9 f85_c82
def f85_c84 : MC := .seq f85_c8 f85_c83
def f85_c85 : MC := .seq f85_c1 f85_c84
def f85_c86 : MC := .seq f85_c0 f85_c85
noncomputable def f85_code : Code := (Go.Proofs.Tryd.f85.body).getD .skip
theorem f85_body : Go.Proofs.Tryd.f85.body = Qu f85_code := by kernel_rfl
theorem f85_tr : trC Go.Proofs.Tryd.prog [] f85_code = Qu f85_c86 := by kernel_rfl
theorem f85_rs : rsOf Go.Proofs.Tryd.prog Go.Proofs.Tryd.f85.results.toList = Qu [(RV.t 2), (RV.t 3)] := by kernel_rfl
theorem f85_nt : Go.Proofs.Tryd.f85.ntmps = 117 := by kernel_rfl
theorem f85_ok : callable Go.Proofs.Tryd.prog 85 = true := by kernel_rfl
theorem f85_in {gp : Heap} {args : List V} {res : V} (h : G ⟨Go.Proofs.Tryd.prog, gp, 0, [(RV.t 2), (RV.t 3)], fun r c => r = res ∧ c = [], false⟩ [.code f85_c86, .fin] ⟨args ++ List.replicate (117 - args.length) .un, []⟩) : Does Go.Proofs.Tryd.prog gp 85 args res :=
  does_intro f85_ok Go.Proofs.Tryd.func85 f85_body f85_tr f85_rs (by rw [f85_nt]; exact h)
theorem f85_tri {gp : Heap} {args : List V} {pre : List Ch} {R : V → List Ch → Prop} (h : G ⟨Go.Proofs.Tryd.prog, gp, pre.length, [(RV.t 2), (RV.t 3)], R, false⟩ [.code f85_c86, .fin] ⟨args ++ List.replicate (117 - args.length) .un, pre⟩) : Tri Go.Proofs.Tryd.prog gp 85 args pre R :=
  tri_intro Go.Proofs.Tryd.func85 f85_body f85_tr f85_rs (by rw [f85_nt]; exact h)

/-! sigillary/scal.fresh$1 -/
def f86_r0 : List MO := [
(Qa (Qu 6) MOp.mkM),
(Qa (Qu 3) (Qc (Qm 6)))]
def f86_c0 : MC := .reg false f86_r0
def f86_c1 : MC := MC.skip
def f86_r2 : List MO := [
(Qa (Qu 7) (Qe 1 false (Qm 1))),
(Qa (Qu 8) (Qj Qs (Qm 7))),
(Qa (Qu 9) (Qc (Qn (Qo (Qp (Qq Qt 0))))))]
def f86_c2 : MC := .reg false f86_r2
def f86_r3 : List MO := [
(Qa (Qu 10) (Qd Qs Go.BinOp.lss (Qm 9) (Qm 8)))]
def f86_c3 : MC := .reg false f86_r3
def f86_c4 : MC := MC.skip
def f86_c5 : MC := (MC.exit 0)
def f86_c6 : MC := .cond (Qm 10) f86_c4 f86_c5
def f86_r7 : List MO := [
(Qa (Qu 11) (Qi 3 (Qm 7) (Qm 9))),
(Qa (Qu 12) (Qe 3 true (Qm 11))),
(Qa (Qu 5) (MOp.alloc [(Qq Qt 0), (Qq Qt 0), (D.str (ByteArray.mk #[]))])),
(Qa none (Qk 3 (Qm 5) (Qm 12)))]
def f86_c7 : MC := .reg false f86_r7
def f86_r8 : List MO := [
(Qa (Qu 13) (Qc (Qm 3))),
(Qa (Qu 14) (Qe 3 true (Qm 5))),
(Qa (Qu 15) (MOp.lkp false (Qo (Qp (Qr false))) true [Qs, Qs, Leaf.s] (Qm 13) (Qm 14))),
(Qa (Qu 16) (Qc (Qm 15))),
(Qb 16 false (Qu 17)),
(Qa (Qu 17) (Qc (Qm 0))),
(Qb 16 false (Qu 18)),
(Qa (Qu 18) (Qe 3 true (Qm 5))),
(Qb 16 false (Qu 19)),
(Qa (Qu 19) (MOp.callv (Qm 17) [(Qm 18)])),
(Qb 16 false (Qu 20)),
(Qa (Qu 20) (MOp.not (Qm 19))),
(Qa (Qu 21) (Ql (Qm 16) (Qn (Qo (Qp (Qr true)))) (Qm 20)))]
def f86_c8 : MC := .reg false f86_r8
def f86_c9 : MC := (MC.exit 0)
def f86_c10 : MC := MC.skip
def f86_c11 : MC := .cond (Qm 21) f86_c9 f86_c10
def f86_c12 : MC := .seq f86_c8 f86_c11
def f86_r13 : List MO := [
(Qa (Qu 22) (Qc (Qm 3))),
(Qa (Qu 23) (Qe 3 true (Qm 5))),
(Qa none (MOp.mupd true [Qs, Qs, Leaf.s] (Qm 22) (Qm 23) (Qn (Qo (Qp (Qr true))))))]
def f86_c13 : MC := .reg false f86_r13
def f86_c14 : MC := .seq f86_c12 f86_c13
def f86_c15 : MC := .seq f86_c7 f86_c14
def f86_c16 : MC := .blk 1 f86_c15
def f86_r17 : List MO := [
(Qa (Qu 24) (Qd Qs Go.BinOp.add (Qm 9) (Qn (Qo (Qp (Qq Qt 1)))))),
(Qa (Qu 9) (Qc (Qm 24)))]
def f86_c17 : MC := .reg false f86_r17
def f86_c18 : MC := .seq f86_c16 f86_c17
def f86_c19 : MC := .seq f86_c6 f86_c18
def f86_c20 : MC := .seq f86_c3 f86_c19
def f86_c21 : MC := .loop f86_c20
def f86_c22 : MC := .blk 0 f86_c21
def f86_c23 : MC := .seq f86_c2 f86_c22
def f86_c24 : MC := .seq f86_c1 f86_c23
def f86_c25 : MC := .seq f86_c0 f86_c24
def f86_c26 : MC := .scope f86_c25
noncomputable def f86_code : Code := (Go.Proofs.Tryd.f86.body).getD .skip
theorem f86_body : Go.Proofs.Tryd.f86.body = Qu f86_code := by kernel_rfl
theorem f86_tr : trC Go.Proofs.Tryd.prog [] f86_code = Qu f86_c26 := by kernel_rfl
theorem f86_rs : rsOf Go.Proofs.Tryd.prog Go.Proofs.Tryd.f86.results.toList = Qu [] := by kernel_rfl
theorem f86_nt : Go.Proofs.Tryd.f86.ntmps = 25 := by kernel_rfl
theorem f86_ok : callable Go.Proofs.Tryd.prog 86 = true := by kernel_rfl
theorem f86_in {gp : Heap} {args : List V} {res : V} (h : G ⟨Go.Proofs.Tryd.prog, gp, 0, [], fun r c => r = res ∧ c = [], false⟩ [.code f86_c26, .fin] ⟨args ++ List.replicate (25 - args.length) .un, []⟩) : Does Go.Proofs.Tryd.prog gp 86 args res :=
  does_intro f86_ok Go.Proofs.Tryd.func86 f86_body f86_tr f86_rs (by rw [f86_nt]; exact h)
theorem f86_tri {gp : Heap} {args : List V} {pre : List Ch} {R : V → List Ch → Prop} (h : G ⟨Go.Proofs.Tryd.prog, gp, pre.length, [], R, false⟩ [.code f86_c26, .fin] ⟨args ++ List.replicate (25 - args.length) .un, pre⟩) : Tri Go.Proofs.Tryd.prog gp 86 args pre R :=
  tri_intro Go.Proofs.Tryd.func86 f86_body f86_tr f86_rs (by rw [f86_nt]; exact h)

end Go.Fw.L07
