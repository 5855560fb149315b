/- Small codes. -/
import Derived.Test.YtfonfncokpdaaaaDoorFd
import Derived.Test.YtfonfncokpdaaaaDoorProg
set_option linter.all false
namespace Go.Fw.L07
open Go Go.Fw
open Go.Fw.MO renaming op → Qa, chk → Qb, opx → Qc
open Go.Fw.MOp renaming mv → Qd, bin → Qe, load → Qf, fad → Qg, call → Qh, ext → Qi, iad → Qj, len → Qk, store → Ql, pick → Qm
open Go.Fw.Opd renaming t → Qn, c → Qo
open Go.Fw.V renaming one → Qp
open Go.Fw.A renaming d → Qq
open Go.Fw.D renaming int → Qr, bool → Qs
open Go.Fw.Leaf renaming i → Qt
open Go.IntKind renaming i64 → Qu
open Option renaming some → Qv
def f9_r0 : List MO := [
(Qa (Qv 1) (MOp.ibox (Qn 0))),
(Qa (Qv 2) (MOp.alloc [(Qr Qu 0), (D.sl [])]))]
def f9_c0 : MC := .reg false f9_r0
def f9_r1 : List MO := [
(Qa (Qv 9) (Qg 0 (Qn 1))),
(Qa (Qv 10) (Qf 1 false (Qn 9))),
(Qa (Qv 11) (MOp.build [(Qr Qu 0), (D.sl [])] [(0, (1, (Qn 10)))])),
(Qa (Qv 3) (MOp.alloc [(Qr Qu 0), (D.sl [])])),
(Qa none (Ql 2 (Qn 3) (Qn 11)))]
def f9_c1 : MC := .reg false f9_r1
def f9_r2 : List MO := [
(Qa (Qv 4) (Qd (Qo (Qp (Qq (Qr Qu 0))))))]
def f9_c2 : MC := .reg false f9_r2
def f9_r3 : List MO := [
(Qa (Qv 12) (Qd (Qn 4))),
(Qa (Qv 13) (Qg 1 (Qn 1))),
(Qa (Qv 14) (Qf 1 false (Qn 13))),
(Qa (Qv 15) (Qk Qt (Qn 14))),
(Qa (Qv 16) (Qe Qt Go.BinOp.lss (Qn 12) (Qn 15))),
(Qa (Qv 17) (Qd (Qn 16))),
(Qb 17 true (Qv 18)),
(Qa (Qv 18) (Qd (Qn 4))),
(Qb 17 true (Qv 19)),
(Qa (Qv 19) (Qe Qt Go.BinOp.lss (Qn 18) (Qo (Qp (Qq (Qr Qu 201)))))),
(Qa (Qv 20) (Qm (Qn 17) (Qn 19) (Qo (Qp (Qq (Qs false))))))]
def f9_c3 : MC := .reg false f9_r3
def f9_c4 : MC := MC.skip
def f9_c5 : MC := (MC.exit 0)
def f9_c6 : MC := .cond (Qn 20) f9_c4 f9_c5
def f9_c7 : MC := .seq f9_c3 f9_c6
def f9_r8 : List MO := [
(Qa (Qv 23) (Qg 1 (Qn 1))),
(Qa (Qv 24) (Qf 1 false (Qn 23))),
(Qa (Qv 25) (Qd (Qn 4))),
(Qa (Qv 26) (Qj 6 (Qn 24) (Qn 25))),
(Qa (Qv 27) (Qf 6 true (Qn 26))),
(Qa (Qv 5) (MOp.alloc [(Qr Qu 0), (Qr Qu 0), (Qr Qu 0), (D.str (ByteArray.mk #[])), (D.sl []), (D.sl [])])),
(Qa none (Ql 6 (Qn 5) (Qn 27)))]
def f9_c8 : MC := .reg false f9_r8
def f9_r9 : List MO := [
(Qa (Qv 28) (Qg 0 (Qn 5))),
(Qa (Qv 29) (Qf 1 false (Qn 28))),
(Qa (Qv 30) (Qg 1 (Qn 5))),
(Qa (Qv 31) (Qf 3 true (Qn 30))),
(Qa (Qv 32) (Qh 25 [(Qn 31)])),
(Qa (Qv 33) (MOp.build [(Qr Qu 0), (Qr Qu 0), (Qr Qu 0), (D.str (ByteArray.mk #[])), (D.sl []), (D.sl [])] [(0, (1, (Qn 29))), (1, (3, (Qn 32)))])),
(Qa (Qv 6) (MOp.alloc [(Qr Qu 0), (Qr Qu 0), (Qr Qu 0), (D.str (ByteArray.mk #[])), (D.sl []), (D.sl [])])),
(Qa none (Ql 6 (Qn 6) (Qn 33)))]
def f9_c9 : MC := .reg true f9_r9
def f9_r10 : List MO := [
(Qa (Qv 7) (Qd (Qo (Qp (Qq (Qr Qu 0))))))]
def f9_c10 : MC := .reg false f9_r10
def f9_r11 : List MO := [
(Qa (Qv 34) (Qd (Qn 7))),
(Qa (Qv 35) (Qg 4 (Qn 5))),
(Qa (Qv 36) (Qf 1 false (Qn 35))),
(Qa (Qv 37) (Qk Qt (Qn 36))),
(Qa (Qv 38) (Qe Qt Go.BinOp.lss (Qn 34) (Qn 37))),
(Qa (Qv 39) (Qd (Qn 38))),
(Qb 39 true (Qv 40)),
(Qa (Qv 40) (Qd (Qn 7))),
(Qb 39 true (Qv 41)),
(Qa (Qv 41) (Qe Qt Go.BinOp.lss (Qn 40) (Qo (Qp (Qq (Qr Qu 12)))))),
(Qa (Qv 42) (Qm (Qn 39) (Qn 41) (Qo (Qp (Qq (Qs false))))))]
def f9_c11 : MC := .reg false f9_r11
def f9_c12 : MC := MC.skip
def f9_c13 : MC := (MC.exit 2)
def f9_c14 : MC := .cond (Qn 42) f9_c12 f9_c13
def f9_c15 : MC := .seq f9_c11 f9_c14
def f9_r16 : List MO := [
(Qa (Qv 45) (Qg 4 (Qn 6))),
(Qa (Qv 46) (Qf 1 false (Qn 45))),
(Qa (Qv 47) (Qg 4 (Qn 5))),
(Qa (Qv 48) (Qf 1 false (Qn 47))),
(Qa (Qv 49) (Qd (Qn 7))),
(Qa (Qv 50) (Qj 3 (Qn 48) (Qn 49))),
(Qa (Qv 51) (Qf 3 true (Qn 50))),
(Qa (Qv 52) (Qh 25 [(Qn 51)])),
(Qa (Qv 53) (MOp.bslice 3 [(Qr Qu 0), (Qr Qu 0), (D.str (ByteArray.mk #[]))] 1 [(0, (Qn 52))])),
(Qa (Qv 54) (MOp.app 3 32 (Qn 46) (Qn 53))),
(Qa (Qv 55) (Qg 4 (Qn 6))),
(Qa none (Ql 1 (Qn 55) (Qn 54)))]
def f9_c16 : MC := .reg true f9_r16
def f9_c17 : MC := .blk 3 f9_c16
def f9_r18 : List MO := [
(Qa (Qv 43) (Qd (Qn 7))),
(Qa (Qv 44) (Qe Qt Go.BinOp.add (Qn 43) (Qo (Qp (Qq (Qr Qu 1)))))),
(Qa (Qv 7) (Qd (Qn 44)))]
def f9_c18 : MC := .reg false f9_r18
def f9_c19 : MC := .seq f9_c17 f9_c18
def f9_c20 : MC := .seq f9_c15 f9_c19
def f9_c21 : MC := .loop f9_c20
def f9_c22 : MC := .blk 2 f9_c21
def f9_c23 : MC := .seq f9_c10 f9_c22
def f9_r24 : List MO := [
(Qa (Qv 8) (Qd (Qo (Qp (Qq (Qr Qu 0))))))]
def f9_c24 : MC := .reg false f9_r24
def f9_r25 : List MO := [
(Qa (Qv 56) (Qd (Qn 8))),
(Qa (Qv 57) (Qg 5 (Qn 5))),
(Qa (Qv 58) (Qf 1 false (Qn 57))),
(Qa (Qv 59) (Qk Qt (Qn 58))),
(Qa (Qv 60) (Qe Qt Go.BinOp.lss (Qn 56) (Qn 59))),
(Qa (Qv 61) (Qd (Qn 60))),
(Qb 61 true (Qv 62)),
(Qa (Qv 62) (Qd (Qn 8))),
(Qb 61 true (Qv 63)),
(Qa (Qv 63) (Qe Qt Go.BinOp.lss (Qn 62) (Qo (Qp (Qq (Qr Qu 12)))))),
(Qa (Qv 64) (Qm (Qn 61) (Qn 63) (Qo (Qp (Qq (Qs false))))))]
def f9_c25 : MC := .reg false f9_r25
def f9_c26 : MC := MC.skip
def f9_c27 : MC := (MC.exit 4)
def f9_c28 : MC := .cond (Qn 64) f9_c26 f9_c27
def f9_c29 : MC := .seq f9_c25 f9_c28
def f9_r30 : List MO := [
(Qa (Qv 67) (Qg 5 (Qn 6))),
(Qa (Qv 68) (Qf 1 false (Qn 67))),
(Qa (Qv 69) (Qg 5 (Qn 5))),
(Qa (Qv 70) (Qf 1 false (Qn 69))),
(Qa (Qv 71) (Qd (Qn 8))),
(Qa (Qv 72) (Qj 1 (Qn 70) (Qn 71))),
(Qa (Qv 73) (Qf 1 false (Qn 72))),
(Qa (Qv 74) (MOp.bslice 1 [(Qr Qu 0)] 1 [(0, (Qn 73))])),
(Qa (Qv 75) (MOp.app 1 8 (Qn 68) (Qn 74))),
(Qa (Qv 76) (Qg 5 (Qn 6))),
(Qa none (Ql 1 (Qn 76) (Qn 75)))]
def f9_c30 : MC := .reg true f9_r30
def f9_c31 : MC := .blk 5 f9_c30
def f9_r32 : List MO := [
(Qa (Qv 65) (Qd (Qn 8))),
(Qa (Qv 66) (Qe Qt Go.BinOp.add (Qn 65) (Qo (Qp (Qq (Qr Qu 1)))))),
(Qa (Qv 8) (Qd (Qn 66)))]
def f9_c32 : MC := .reg false f9_r32
def f9_c33 : MC := .seq f9_c31 f9_c32
def f9_c34 : MC := .seq f9_c29 f9_c33
def f9_c35 : MC := .loop f9_c34
def f9_c36 : MC := .blk 4 f9_c35
def f9_c37 : MC := .seq f9_c24 f9_c36
def f9_r38 : List MO := [
(Qa (Qv 77) (Qg 1 (Qn 3))),
(Qa (Qv 78) (Qf 1 false (Qn 77))),
(Qa (Qv 79) (Qf 6 true (Qn 6))),
(Qa (Qv 80) (MOp.bslice 6 [(Qr Qu 0), (Qr Qu 0), (Qr Qu 0), (D.str (ByteArray.mk #[])), (D.sl []), (D.sl [])] 1 [(0, (Qn 79))])),
(Qa (Qv 81) (MOp.app 6 88 (Qn 78) (Qn 80))),
(Qa (Qv 82) (Qg 1 (Qn 3))),
(Qa none (Ql 1 (Qn 82) (Qn 81)))]
def f9_c38 : MC := .reg false f9_r38
def f9_c39 : MC := .seq f9_c37 f9_c38
def f9_c40 : MC := .seq f9_c23 f9_c39
def f9_c41 : MC := .seq f9_c9 f9_c40
def f9_c42 : MC := .seq f9_c8 f9_c41
def f9_c43 : MC := .blk 1 f9_c42
def f9_r44 : List MO := [
(Qa (Qv 21) (Qd (Qn 4))),
(Qa (Qv 22) (Qe Qt Go.BinOp.add (Qn 21) (Qo (Qp (Qq (Qr Qu 1)))))),
(Qa (Qv 4) (Qd (Qn 22)))]
def f9_c44 : MC := .reg false f9_r44
def f9_c45 : MC := .seq f9_c43 f9_c44
def f9_c46 : MC := .seq f9_c7 f9_c45
def f9_c47 : MC := .loop f9_c46
def f9_c48 : MC := .blk 0 f9_c47
def f9_c49 : MC := .seq f9_c2 f9_c48
def f9_r50 : List MO := [
(Qa (Qv 83) (Qf 2 true (Qn 3))),
(Qa none (Ql 2 (Qn 2) (Qn 83)))]
def f9_c50 : MC := .reg false f9_r50
def f9_c51 : MC := MC.ret
def f9_c52 : MC := .seq f9_c50 f9_c51
def f9_c53 : MC := .seq f9_c49 f9_c52
def f9_c54 : MC := .seq f9_c1 f9_c53
def f9_c55 : MC := .seq f9_c0 f9_c54
noncomputable def f9_code : Code := (Go.Proofs.Tryd.f9.body).getD .skip
theorem f9_body : Go.Proofs.Tryd.f9.body = Qv f9_code := by kernel_rfl
theorem f9_tr : trC Go.Proofs.Tryd.prog [1] f9_code = Qv f9_c55 := by kernel_rfl
theorem f9_rs : rsOf Go.Proofs.Tryd.prog Go.Proofs.Tryd.f9.results.toList = Qv [(RV.cell 2 2 true)] := by kernel_rfl
theorem f9_nt : Go.Proofs.Tryd.f9.ntmps = 84 := by kernel_rfl
theorem f9_ok : callable Go.Proofs.Tryd.prog 9 = true := by kernel_rfl
theorem f9_in {gp : Heap} {args : List V} {res : V} (h : G ⟨Go.Proofs.Tryd.prog, gp, 0, [(RV.cell 2 2 true)], fun r c => r = res ∧ c = [], false⟩ [.code f9_c55, .fin] ⟨args ++ List.replicate (84 - args.length) .un, []⟩) : Does Go.Proofs.Tryd.prog gp 9 args res :=
  does_intro f9_ok Go.Proofs.Tryd.func9 f9_body f9_tr f9_rs (by rw [f9_nt]; exact h)
theorem f9_tri {gp : Heap} {args : List V} {pre : List Ch} {R : V → List Ch → Prop} (h : G ⟨Go.Proofs.Tryd.prog, gp, pre.length, [(RV.cell 2 2 true)], R, false⟩ [.code f9_c55, .fin] ⟨args ++ List.replicate (84 - args.length) .un, pre⟩) : Tri Go.Proofs.Tryd.prog gp 9 args pre R :=
  tri_intro Go.Proofs.Tryd.func9 f9_body f9_tr f9_rs (by rw [f9_nt]; exact h)
def f10_r0 : List MO := [
(Qa (Qv 1) (MOp.ibox (Qn 0))),
(Qa (Qv 2) (Qd (Qo (Qp (Qq (Qr Qu 0)))))),
(Qa (Qv 3) (Qd (Qo (Qp (Qq (Qr Qu 0))))))]
def f10_c0 : MC := .reg false f10_r0
def f10_r1 : List MO := [
(Qa (Qv 4) (Qf 2 true (Qn 1))),
(Qa (Qv 5) (Qh 27 [(Qn 4)])),
(Qa (Qv 6) (Qh 26 [(Qn 5)])),
(Qa (Qv 7) (Qi (Qn 6) 0)),
(Qa (Qv 8) (Qi (Qn 6) 1)),
(Qa (Qv 2) (Qd (Qn 7))),
(Qa (Qv 3) (Qd (Qn 8)))]
def f10_c1 : MC := .reg false f10_r1
def f10_c2 : MC := MC.ret
def f10_c3 : MC := .seq f10_c1 f10_c2
def f10_c4 : MC := .seq f10_c0 f10_c3
noncomputable def f10_code : Code := (Go.Proofs.Tryd.f10.body).getD .skip
theorem f10_body : Go.Proofs.Tryd.f10.body = Qv f10_code := by kernel_rfl
theorem f10_tr : trC Go.Proofs.Tryd.prog [1] f10_code = Qv f10_c4 := by kernel_rfl
theorem f10_rs : rsOf Go.Proofs.Tryd.prog Go.Proofs.Tryd.f10.results.toList = Qv [(RV.t 2), (RV.t 3)] := by kernel_rfl
theorem f10_nt : Go.Proofs.Tryd.f10.ntmps = 9 := by kernel_rfl
theorem f10_ok : callable Go.Proofs.Tryd.prog 10 = true := by kernel_rfl
theorem f10_in {gp : Heap} {args : List V} {res : V} (h : G ⟨Go.Proofs.Tryd.prog, gp, 0, [(RV.t 2), (RV.t 3)], fun r c => r = res ∧ c = [], false⟩ [.code f10_c4, .fin] ⟨args ++ List.replicate (9 - args.length) .un, []⟩) : Does Go.Proofs.Tryd.prog gp 10 args res :=
  does_intro f10_ok Go.Proofs.Tryd.func10 f10_body f10_tr f10_rs (by rw [f10_nt]; exact h)
theorem f10_tri {gp : Heap} {args : List V} {pre : List Ch} {R : V → List Ch → Prop} (h : G ⟨Go.Proofs.Tryd.prog, gp, pre.length, [(RV.t 2), (RV.t 3)], R, false⟩ [.code f10_c4, .fin] ⟨args ++ List.replicate (9 - args.length) .un, pre⟩) : Tri Go.Proofs.Tryd.prog gp 10 args pre R :=
  tri_intro Go.Proofs.Tryd.func10 f10_body f10_tr f10_rs (by rw [f10_nt]; exact h)
def f11_r0 : List MO := [
(Qa (Qv 2) (MOp.ibox (Qn 0))),
(Qa (Qv 4) (Qd (Qo (Qp A.nil)))),
(Qa (Qv 5) (Qd (Qo (Qp (Qq (Qr Qu 0))))))]
def f11_c0 : MC := .reg false f11_r0
def f11_r1 : List MO := [
(Qa (Qv 12) (Qf 2 true (Qn 2))),
(Qa (Qv 13) (Qd (Qn 1))),
(Qa (Qv 14) (Qh 28 [(Qn 12), (Qn 13)])),
(Qa (Qv 11) (Qd (Qn 14))),
(Qa (Qv 15) (Qi (Qn 11) 0)),
(Qa (Qv 16) (Qi (Qn 11) 1)),
(Qa (Qv 6) (MOp.alloc [(Qr Qu 0), (Qr Qu 0), (Qr Qu 0), (D.str (ByteArray.mk #[])), (D.sl []), (D.sl []), (Qr Qu 0)])),
(Qa none (Ql 7 (Qn 6) (Qn 15))),
(Qa (Qv 7) (Qd (Qn 16)))]
def f11_c1 : MC := .reg false f11_r1
def f11_r2 : List MO := [
(Qa (Qv 17) (Qd (Qn 7))),
(Qa (Qv 18) (Qe Qt Go.BinOp.eql (Qn 17) (Qo (Qp (Qq (Qr Qu 0)))))),
(Qa (Qv 19) (Qd (Qn 18))),
(Qb 19 true (Qv 20)),
(Qa (Qv 20) (Qg 0 (Qn 6))),
(Qb 19 true (Qv 21)),
(Qa (Qv 21) (Qg 0 (Qn 20))),
(Qb 19 true (Qv 22)),
(Qa (Qv 22) (Qf 1 false (Qn 21))),
(Qb 19 true (Qv 23)),
(Qa (Qv 23) (Qe Qt Go.BinOp.eql (Qn 22) (Qo (Qp (Qq (Qr Qu 1)))))),
(Qa (Qv 24) (Qm (Qn 19) (Qn 23) (Qo (Qp (Qq (Qs false))))))]
def f11_c2 : MC := .reg false f11_r2
def f11_r3 : List MO := [
(Qa (Qv 25) (Qg 0 (Qn 6))),
(Qa (Qv 26) (Qg 5 (Qn 25))),
(Qa (Qv 27) (Qf 1 false (Qn 26))),
(Qa (Qv 28) (Qh 29 [(Qn 27)])),
(Qa (Qv 29) (Qd (Qn 7))),
(Qa (Qv 4) (Qd (Qn 28))),
(Qa (Qv 5) (Qd (Qn 29)))]
def f11_c3 : MC := .reg false f11_r3
def f11_c4 : MC := MC.ret
def f11_c5 : MC := .seq f11_c3 f11_c4
def f11_c6 : MC := MC.skip
def f11_c7 : MC := .cond (Qn 24) f11_c5 f11_c6
def f11_c8 : MC := .seq f11_c2 f11_c7
def f11_r9 : List MO := [
(Qa (Qv 8) (Qd (Qo (Qp A.nil))))]
def f11_c9 : MC := .reg false f11_r9
def f11_r10 : List MO := [
(Qa (Qv 30) (Qf 7 true (Qn 6))),
(Qa (Qv 31) (Qh 30 [(Qn 30)])),
(Qa (Qv 32) (Qk Qt (Qn 31))),
(Qa (Qv 33) (Qd (Qo (Qp (Qq (Qr Qu 0))))))]
def f11_c10 : MC := .reg false f11_r10
def f11_r11 : List MO := [
(Qa (Qv 34) (Qe Qt Go.BinOp.lss (Qn 33) (Qn 32)))]
def f11_c11 : MC := .reg false f11_r11
def f11_c12 : MC := MC.skip
def f11_c13 : MC := (MC.exit 0)
def f11_c14 : MC := .cond (Qn 34) f11_c12 f11_c13
def f11_r15 : List MO := [
(Qa (Qv 35) (Qj 4 (Qn 31) (Qn 33))),
(Qa (Qv 36) (Qf 4 true (Qn 35))),
(Qa (Qv 10) (MOp.alloc [(Qr Qu 0), (Qr Qu 0), (D.str (ByteArray.mk #[])), (Qr Qu 0)])),
(Qa none (Ql 4 (Qn 10) (Qn 36)))]
def f11_c15 : MC := .reg false f11_r15
def f11_r16 : List MO := [
(Qa (Qv 37) (Qd (Qn 8))),
(Qa (Qv 38) (Qg 3 (Qn 10))),
(Qa (Qv 39) (Qf 1 false (Qn 38))),
(Qa (Qv 40) (MOp.bslice 1 [(Qr Qu 0)] 1 [(0, (Qn 39))])),
(Qa (Qv 41) (MOp.app 1 8 (Qn 37) (Qn 40))),
(Qa (Qv 8) (Qd (Qn 41)))]
def f11_c16 : MC := .reg false f11_r16
def f11_c17 : MC := .seq f11_c15 f11_c16
def f11_c18 : MC := .blk 1 f11_c17
def f11_r19 : List MO := [
(Qa (Qv 42) (Qe Qt Go.BinOp.add (Qn 33) (Qo (Qp (Qq (Qr Qu 1)))))),
(Qa (Qv 33) (Qd (Qn 42)))]
def f11_c19 : MC := .reg false f11_r19
def f11_c20 : MC := .seq f11_c18 f11_c19
def f11_c21 : MC := .seq f11_c14 f11_c20
def f11_c22 : MC := .seq f11_c11 f11_c21
def f11_c23 : MC := .loop f11_c22
def f11_c24 : MC := .blk 0 f11_c23
def f11_c25 : MC := .seq f11_c10 f11_c24
def f11_r26 : List MO := [
(Qa (Qv 43) (Qd (Qn 8))),
(Qa (Qv 44) (Qd (Qn 7))),
(Qa (Qv 4) (Qd (Qn 43))),
(Qa (Qv 5) (Qd (Qn 44)))]
def f11_c26 : MC := .reg false f11_r26
def f11_c27 : MC := MC.ret
def f11_c28 : MC := .seq f11_c26 f11_c27
def f11_c29 : MC := .seq f11_c25 f11_c28
def f11_c30 : MC := .seq f11_c9 f11_c29
def f11_c31 : MC := .seq f11_c8 f11_c30
def f11_c32 : MC := .seq f11_c1 f11_c31
def f11_c33 : MC := .seq f11_c0 f11_c32
noncomputable def f11_code : Code := (Go.Proofs.Tryd.f11.body).getD .skip
theorem f11_body : Go.Proofs.Tryd.f11.body = Qv f11_code := by kernel_rfl
theorem f11_tr : trC Go.Proofs.Tryd.prog [2] f11_code = Qv f11_c33 := by kernel_rfl
theorem f11_rs : rsOf Go.Proofs.Tryd.prog Go.Proofs.Tryd.f11.results.toList = Qv [(RV.t 4), (RV.t 5)] := by kernel_rfl
theorem f11_nt : Go.Proofs.Tryd.f11.ntmps = 45 := by kernel_rfl
theorem f11_ok : callable Go.Proofs.Tryd.prog 11 = true := by kernel_rfl
theorem f11_in {gp : Heap} {args : List V} {res : V} (h : G ⟨Go.Proofs.Tryd.prog, gp, 0, [(RV.t 4), (RV.t 5)], fun r c => r = res ∧ c = [], false⟩ [.code f11_c33, .fin] ⟨args ++ List.replicate (45 - args.length) .un, []⟩) : Does Go.Proofs.Tryd.prog gp 11 args res :=
  does_intro f11_ok Go.Proofs.Tryd.func11 f11_body f11_tr f11_rs (by rw [f11_nt]; exact h)
theorem f11_tri {gp : Heap} {args : List V} {pre : List Ch} {R : V → List Ch → Prop} (h : G ⟨Go.Proofs.Tryd.prog, gp, pre.length, [(RV.t 4), (RV.t 5)], R, false⟩ [.code f11_c33, .fin] ⟨args ++ List.replicate (45 - args.length) .un, pre⟩) : Tri Go.Proofs.Tryd.prog gp 11 args pre R :=
  tri_intro Go.Proofs.Tryd.func11 f11_body f11_tr f11_rs (by rw [f11_nt]; exact h)
def f12_r0 : List MO := [
(Qa (Qv 2) (MOp.ibox (Qn 0))),
(Qa (Qv 4) (Qd (Qo (Qp A.nil)))),
(Qa (Qv 5) (Qd (Qo (Qp (Qq (Qr Qu 0))))))]
def f12_c0 : MC := .reg false f12_r0
def f12_r1 : List MO := [
(Qa (Qv 12) (Qf 2 true (Qn 2))),
(Qa (Qv 13) (Qd (Qn 1))),
(Qa (Qv 14) (Qh 28 [(Qn 12), (Qn 13)])),
(Qa (Qv 11) (Qd (Qn 14))),
(Qa (Qv 15) (Qi (Qn 11) 0)),
(Qa (Qv 16) (Qi (Qn 11) 1)),
(Qa (Qv 6) (MOp.alloc [(Qr Qu 0), (Qr Qu 0), (Qr Qu 0), (D.str (ByteArray.mk #[])), (D.sl []), (D.sl []), (Qr Qu 0)])),
(Qa none (Ql 7 (Qn 6) (Qn 15))),
(Qa (Qv 7) (Qd (Qn 16)))]
def f12_c1 : MC := .reg false f12_r1
def f12_r2 : List MO := [
(Qa (Qv 8) (Qd (Qo (Qp A.nil))))]
def f12_c2 : MC := .reg false f12_r2
def f12_r3 : List MO := [
(Qa (Qv 17) (Qf 7 true (Qn 6))),
(Qa (Qv 18) (Qh 30 [(Qn 17)])),
(Qa (Qv 19) (Qk Qt (Qn 18))),
(Qa (Qv 20) (Qd (Qo (Qp (Qq (Qr Qu 0))))))]
def f12_c3 : MC := .reg false f12_r3
def f12_r4 : List MO := [
(Qa (Qv 21) (Qe Qt Go.BinOp.lss (Qn 20) (Qn 19)))]
def f12_c4 : MC := .reg false f12_r4
def f12_c5 : MC := MC.skip
def f12_c6 : MC := (MC.exit 0)
def f12_c7 : MC := .cond (Qn 21) f12_c5 f12_c6
def f12_r8 : List MO := [
(Qa (Qv 22) (Qj 4 (Qn 18) (Qn 20))),
(Qa (Qv 23) (Qf 4 true (Qn 22))),
(Qa (Qv 10) (MOp.alloc [(Qr Qu 0), (Qr Qu 0), (D.str (ByteArray.mk #[])), (Qr Qu 0)])),
(Qa none (Ql 4 (Qn 10) (Qn 23)))]
def f12_c8 : MC := .reg false f12_r8
def f12_r9 : List MO := [
(Qa (Qv 24) (Qd (Qn 8))),
(Qa (Qv 25) (Qg 0 (Qn 10))),
(Qa (Qv 26) (Qf 3 true (Qn 25))),
(Qa (Qv 27) (MOp.bslice 3 [(Qr Qu 0), (Qr Qu 0), (D.str (ByteArray.mk #[]))] 1 [(0, (Qn 26))])),
(Qa (Qv 28) (MOp.app 3 32 (Qn 24) (Qn 27))),
(Qa (Qv 8) (Qd (Qn 28)))]
def f12_c9 : MC := .reg false f12_r9
def f12_c10 : MC := .seq f12_c8 f12_c9
def f12_c11 : MC := .blk 1 f12_c10
def f12_r12 : List MO := [
(Qa (Qv 29) (Qe Qt Go.BinOp.add (Qn 20) (Qo (Qp (Qq (Qr Qu 1)))))),
(Qa (Qv 20) (Qd (Qn 29)))]
def f12_c12 : MC := .reg false f12_r12
def f12_c13 : MC := .seq f12_c11 f12_c12
def f12_c14 : MC := .seq f12_c7 f12_c13
def f12_c15 : MC := .seq f12_c4 f12_c14
def f12_c16 : MC := .loop f12_c15
def f12_c17 : MC := .blk 0 f12_c16
def f12_c18 : MC := .seq f12_c3 f12_c17
def f12_r19 : List MO := [
(Qa (Qv 30) (Qd (Qn 8))),
(Qa (Qv 31) (Qd (Qn 7))),
(Qa (Qv 4) (Qd (Qn 30))),
(Qa (Qv 5) (Qd (Qn 31)))]
def f12_c19 : MC := .reg false f12_r19
def f12_c20 : MC := MC.ret
def f12_c21 : MC := .seq f12_c19 f12_c20
def f12_c22 : MC := .seq f12_c18 f12_c21
def f12_c23 : MC := .seq f12_c2 f12_c22
def f12_c24 : MC := .seq f12_c1 f12_c23
def f12_c25 : MC := .seq f12_c0 f12_c24
noncomputable def f12_code : Code := (Go.Proofs.Tryd.f12.body).getD .skip
theorem f12_body : Go.Proofs.Tryd.f12.body = Qv f12_code := by kernel_rfl
theorem f12_tr : trC Go.Proofs.Tryd.prog [2] f12_code = Qv f12_c25 := by kernel_rfl
theorem f12_rs : rsOf Go.Proofs.Tryd.prog Go.Proofs.Tryd.f12.results.toList = Qv [(RV.t 4), (RV.t 5)] := by kernel_rfl
theorem f12_nt : Go.Proofs.Tryd.f12.ntmps = 32 := by kernel_rfl
theorem f12_ok : callable Go.Proofs.Tryd.prog 12 = true := by kernel_rfl
theorem f12_in {gp : Heap} {args : List V} {res : V} (h : G ⟨Go.Proofs.Tryd.prog, gp, 0, [(RV.t 4), (RV.t 5)], fun r c => r = res ∧ c = [], false⟩ [.code f12_c25, .fin] ⟨args ++ List.replicate (32 - args.length) .un, []⟩) : Does Go.Proofs.Tryd.prog gp 12 args res :=
  does_intro f12_ok Go.Proofs.Tryd.func12 f12_body f12_tr f12_rs (by rw [f12_nt]; exact h)
theorem f12_tri {gp : Heap} {args : List V} {pre : List Ch} {R : V → List Ch → Prop} (h : G ⟨Go.Proofs.Tryd.prog, gp, pre.length, [(RV.t 4), (RV.t 5)], R, false⟩ [.code f12_c25, .fin] ⟨args ++ List.replicate (32 - args.length) .un, pre⟩) : Tri Go.Proofs.Tryd.prog gp 12 args pre R :=
  tri_intro Go.Proofs.Tryd.func12 f12_body f12_tr f12_rs (by rw [f12_nt]; exact h)
def f13_r0 : List MO := [
(Qa (Qv 3) (MOp.ibox (Qn 0))),
(Qa (Qv 5) (MOp.ibox (Qn 2))),
(Qa (Qv 6) (Qd (Qo (Qp (Qq (Qr Qu 0)))))),
(Qa (Qv 7) (Qd (Qo (Qp (Qq (Qs false))))))]
def f13_c0 : MC := .reg false f13_r0
def f13_r1 : List MO := [
(Qa (Qv 13) (Qf 2 true (Qn 3))),
(Qa (Qv 14) (Qd (Qn 1))),
(Qa (Qv 15) (Qh 28 [(Qn 13), (Qn 14)])),
(Qa (Qv 12) (Qd (Qn 15))),
(Qa (Qv 16) (Qi (Qn 12) 0)),
(Qa (Qv 17) (Qi (Qn 12) 1)),
(Qa (Qv 8) (MOp.alloc [(Qr Qu 0), (Qr Qu 0), (Qr Qu 0), (D.str (ByteArray.mk #[])), (D.sl []), (D.sl []), (Qr Qu 0)])),
(Qa none (Ql 7 (Qn 8) (Qn 16))),
(Qa (Qv 9) (Qd (Qn 17)))]
def f13_c1 : MC := .reg false f13_r1
def f13_r2 : List MO := [
(Qa (Qv 18) (Qd (Qn 9))),
(Qa (Qv 19) (Qe Qt Go.BinOp.neq (Qn 18) (Qo (Qp (Qq (Qr Qu 0)))))),
(Qa (Qv 20) (Qd (Qn 19))),
(Qb 20 false (Qv 21)),
(Qa (Qv 21) (Qg 0 (Qn 8))),
(Qb 20 false (Qv 22)),
(Qa (Qv 22) (Qg 0 (Qn 21))),
(Qb 20 false (Qv 23)),
(Qa (Qv 23) (Qf 1 false (Qn 22))),
(Qb 20 false (Qv 24)),
(Qa (Qv 24) (Qe Qt Go.BinOp.neq (Qn 23) (Qo (Qp (Qq (Qr Qu 2)))))),
(Qa (Qv 25) (Qm (Qn 20) (Qo (Qp (Qq (Qs true)))) (Qn 24)))]
def f13_c2 : MC := .reg false f13_r2
def f13_r3 : List MO := [
(Qa (Qv 6) (Qd (Qo (Qp (Qq (Qr Qu 0)))))),
(Qa (Qv 7) (Qd (Qo (Qp (Qq (Qs false))))))]
def f13_c3 : MC := .reg false f13_r3
def f13_c4 : MC := MC.ret
def f13_c5 : MC := .seq f13_c3 f13_c4
def f13_c6 : MC := MC.skip
def f13_c7 : MC := .cond (Qn 25) f13_c5 f13_c6
def f13_c8 : MC := .seq f13_c2 f13_c7
def f13_r9 : List MO := [
(Qa (Qv 26) (Qg 0 (Qn 8))),
(Qa (Qv 27) (Qg 4 (Qn 26))),
(Qa (Qv 28) (Qf 1 false (Qn 27))),
(Qa (Qv 29) (Qg 0 (Qn 8))),
(Qa (Qv 30) (Qg 4 (Qn 29))),
(Qa (Qv 31) (Qf 1 false (Qn 30))),
(Qa (Qv 32) (Qk Qt (Qn 31))),
(Qa (Qv 33) (Qg 0 (Qn 8))),
(Qa (Qv 34) (Qg 5 (Qn 33))),
(Qa (Qv 35) (Qf 1 false (Qn 34))),
(Qa (Qv 36) (Qk Qt (Qn 35))),
(Qa (Qv 37) (MOp.min (Qn 32) (Qn 36))),
(Qa (Qv 38) (MOp.slc 3 (Qn 28) none (Qv (Qn 37)))),
(Qa (Qv 39) (Qk Qt (Qn 38))),
(Qa (Qv 40) (Qd (Qo (Qp (Qq (Qr Qu 0))))))]
def f13_c9 : MC := .reg false f13_r9
def f13_r10 : List MO := [
(Qa (Qv 41) (Qe Qt Go.BinOp.lss (Qn 40) (Qn 39)))]
def f13_c10 : MC := .reg false f13_r10
def f13_c11 : MC := MC.skip
def f13_c12 : MC := (MC.exit 0)
def f13_c13 : MC := .cond (Qn 41) f13_c11 f13_c12
def f13_r14 : List MO := [
(Qa (Qv 42) (Qd (Qn 40))),
(Qa (Qv 43) (Qj 3 (Qn 38) (Qn 40))),
(Qa (Qv 44) (Qf 3 true (Qn 43))),
(Qa (Qv 11) (MOp.alloc [(Qr Qu 0), (Qr Qu 0), (D.str (ByteArray.mk #[]))])),
(Qa (Qv 10) (Qd (Qn 42))),
(Qa none (Ql 3 (Qn 11) (Qn 44)))]
def f13_c14 : MC := .reg false f13_r14
def f13_r15 : List MO := [
(Qa (Qv 45) (Qf 3 true (Qn 11))),
(Qa (Qv 46) (Qf 3 true (Qn 5))),
(Qa (Qv 47) (MOp.eqs false [Qt, Qt, Leaf.s] (Qn 45) (Qn 46)))]
def f13_c15 : MC := .reg false f13_r15
def f13_r16 : List MO := [
(Qa (Qv 48) (Qg 0 (Qn 8))),
(Qa (Qv 49) (Qg 5 (Qn 48))),
(Qa (Qv 50) (Qf 1 false (Qn 49))),
(Qa (Qv 51) (Qd (Qn 10))),
(Qa (Qv 52) (Qj 1 (Qn 50) (Qn 51))),
(Qa (Qv 53) (Qf 1 false (Qn 52))),
(Qa (Qv 6) (Qd (Qn 53))),
(Qa (Qv 7) (Qd (Qo (Qp (Qq (Qs true))))))]
def f13_c16 : MC := .reg false f13_r16
def f13_c17 : MC := MC.ret
def f13_c18 : MC := .seq f13_c16 f13_c17
def f13_c19 : MC := MC.skip
def f13_c20 : MC := .cond (Qn 47) f13_c18 f13_c19
def f13_c21 : MC := .seq f13_c15 f13_c20
def f13_c22 : MC := .seq f13_c14 f13_c21
def f13_c23 : MC := .blk 1 f13_c22
def f13_r24 : List MO := [
(Qa (Qv 54) (Qe Qt Go.BinOp.add (Qn 40) (Qo (Qp (Qq (Qr Qu 1)))))),
(Qa (Qv 40) (Qd (Qn 54)))]
def f13_c24 : MC := .reg false f13_r24
def f13_c25 : MC := .seq f13_c23 f13_c24
def f13_c26 : MC := .seq f13_c13 f13_c25
def f13_c27 : MC := .seq f13_c10 f13_c26
def f13_c28 : MC := .loop f13_c27
def f13_c29 : MC := .blk 0 f13_c28
def f13_c30 : MC := .seq f13_c9 f13_c29
def f13_r31 : List MO := [
(Qa (Qv 6) (Qd (Qo (Qp (Qq (Qr Qu 0)))))),
(Qa (Qv 7) (Qd (Qo (Qp (Qq (Qs false))))))]
def f13_c31 : MC := .reg false f13_r31
def f13_c32 : MC := MC.ret
def f13_c33 : MC := .seq f13_c31 f13_c32
def f13_c34 : MC := .seq f13_c30 f13_c33
def f13_c35 : MC := .seq f13_c8 f13_c34
def f13_c36 : MC := .seq f13_c1 f13_c35
def f13_c37 : MC := .seq f13_c0 f13_c36
noncomputable def f13_code : Code := (Go.Proofs.Tryd.f13.body).getD .skip
theorem f13_body : Go.Proofs.Tryd.f13.body = Qv f13_code := by kernel_rfl
theorem f13_tr : trC Go.Proofs.Tryd.prog [3, 5] f13_code = Qv f13_c37 := by kernel_rfl
theorem f13_rs : rsOf Go.Proofs.Tryd.prog Go.Proofs.Tryd.f13.results.toList = Qv [(RV.t 6), (RV.t 7)] := by kernel_rfl
theorem f13_nt : Go.Proofs.Tryd.f13.ntmps = 55 := by kernel_rfl
theorem f13_ok : callable Go.Proofs.Tryd.prog 13 = true := by kernel_rfl
theorem f13_in {gp : Heap} {args : List V} {res : V} (h : G ⟨Go.Proofs.Tryd.prog, gp, 0, [(RV.t 6), (RV.t 7)], fun r c => r = res ∧ c = [], false⟩ [.code f13_c37, .fin] ⟨args ++ List.replicate (55 - args.length) .un, []⟩) : Does Go.Proofs.Tryd.prog gp 13 args res :=
  does_intro f13_ok Go.Proofs.Tryd.func13 f13_body f13_tr f13_rs (by rw [f13_nt]; exact h)
theorem f13_tri {gp : Heap} {args : List V} {pre : List Ch} {R : V → List Ch → Prop} (h : G ⟨Go.Proofs.Tryd.prog, gp, pre.length, [(RV.t 6), (RV.t 7)], R, false⟩ [.code f13_c37, .fin] ⟨args ++ List.replicate (55 - args.length) .un, pre⟩) : Tri Go.Proofs.Tryd.prog gp 13 args pre R :=
  tri_intro Go.Proofs.Tryd.func13 f13_body f13_tr f13_rs (by rw [f13_nt]; exact h)
def f14_r0 : List MO := [
(Qa (Qv 2) (MOp.ibox (Qn 0))),
(Qa (Qv 3) (MOp.ibox (Qn 1))),
(Qa (Qv 4) (Qd (Qo (Qp (Qq (Qr Qu 0))))))]
def f14_c0 : MC := .reg false f14_r0
def f14_r1 : List MO := [
(Qa (Qv 5) (Qf 3 true (Qn 2))),
(Qa (Qv 6) (Qf 3 true (Qn 3))),
(Qa (Qv 7) (MOp.eqs false [Qt, Qt, Leaf.s] (Qn 5) (Qn 6)))]
def f14_c1 : MC := .reg false f14_r1
def f14_r2 : List MO := [
(Qa (Qv 4) (Qd (Qo (Qp (Qq (Qr Qu 0))))))]
def f14_c2 : MC := .reg false f14_r2
def f14_c3 : MC := MC.ret
def f14_c4 : MC := .seq f14_c2 f14_c3
def f14_c5 : MC := MC.skip
def f14_c6 : MC := .cond (Qn 7) f14_c4 f14_c5
def f14_c7 : MC := .seq f14_c1 f14_c6
def f14_r8 : List MO := [
(Qa (Qv 8) (Qg 0 (Qn 2))),
(Qa (Qv 9) (Qf 1 false (Qn 8))),
(Qa (Qv 10) (Qg 0 (Qn 3))),
(Qa (Qv 11) (Qf 1 false (Qn 10))),
(Qa (Qv 12) (Qh 32 [(Qn 9), (Qn 11)])),
(Qa (Qv 13) (Qg 1 (Qn 2))),
(Qa (Qv 14) (Qf 1 false (Qn 13))),
(Qa (Qv 15) (Qg 1 (Qn 3))),
(Qa (Qv 16) (Qf 1 false (Qn 15))),
(Qa (Qv 17) (Qh 32 [(Qn 14), (Qn 16)])),
(Qa (Qv 18) (Qg 2 (Qn 2))),
(Qa (Qv 19) (Qf 1 false (Qn 18))),
(Qa (Qv 20) (Qg 2 (Qn 3))),
(Qa (Qv 21) (Qf 1 false (Qn 20))),
(Qc (Qv 22) (Qh 33 [(Qn 19), (Qn 21)])),
(Qa (Qv 23) (MOp.bslice 1 [(Qr Qu 0)] 3 [(0, (Qn 12)), (1, (Qn 17)), (2, (Qn 22))])),
(Qc (Qv 24) (Qh 31 [(Qn 23)])),
(Qa (Qv 4) (Qd (Qn 24)))]
def f14_c8 : MC := .reg true f14_r8
def f14_c9 : MC := MC.ret
def f14_c10 : MC := .seq f14_c8 f14_c9
def f14_c11 : MC := .seq f14_c7 f14_c10
def f14_c12 : MC := .seq f14_c0 f14_c11
noncomputable def f14_code : Code := (Go.Proofs.Tryd.f14.body).getD .skip
theorem f14_body : Go.Proofs.Tryd.f14.body = Qv f14_code := by kernel_rfl
theorem f14_tr : trC Go.Proofs.Tryd.prog [2, 3] f14_code = Qv f14_c12 := by kernel_rfl
theorem f14_rs : rsOf Go.Proofs.Tryd.prog Go.Proofs.Tryd.f14.results.toList = Qv [(RV.t 4)] := by kernel_rfl
theorem f14_nt : Go.Proofs.Tryd.f14.ntmps = 25 := by kernel_rfl
theorem f14_ok : callable Go.Proofs.Tryd.prog 14 = true := by kernel_rfl
theorem f14_in {gp : Heap} {args : List V} {res : V} (h : G ⟨Go.Proofs.Tryd.prog, gp, 0, [(RV.t 4)], fun r c => r = res ∧ c = [], false⟩ [.code f14_c12, .fin] ⟨args ++ List.replicate (25 - args.length) .un, []⟩) : Does Go.Proofs.Tryd.prog gp 14 args res :=
  does_intro f14_ok Go.Proofs.Tryd.func14 f14_body f14_tr f14_rs (by rw [f14_nt]; exact h)
theorem f14_tri {gp : Heap} {args : List V} {pre : List Ch} {R : V → List Ch → Prop} (h : G ⟨Go.Proofs.Tryd.prog, gp, pre.length, [(RV.t 4)], R, false⟩ [.code f14_c12, .fin] ⟨args ++ List.replicate (25 - args.length) .un, pre⟩) : Tri Go.Proofs.Tryd.prog gp 14 args pre R :=
  tri_intro Go.Proofs.Tryd.func14 f14_body f14_tr f14_rs (by rw [f14_nt]; exact h)
def f25_r0 : List MO := [
(Qa (Qv 1) (MOp.ibox (Qn 0))),
(Qa (Qv 2) (MOp.alloc [(Qr Qu 0), (Qr Qu 0), (D.str (ByteArray.mk #[]))]))]
def f25_c0 : MC := .reg false f25_r0
def f25_r1 : List MO := [
(Qa (Qv 3) (Qg 0 (Qn 1))),
(Qa (Qv 4) (Qf 1 false (Qn 3))),
(Qa (Qv 5) (Qg 1 (Qn 1))),
(Qa (Qv 6) (Qf 1 false (Qn 5))),
(Qa (Qv 7) (Qg 2 (Qn 1))),
(Qa (Qv 8) (Qf 1 false (Qn 7))),
(Qa (Qv 9) (Qh 45 [(Qn 8)])),
(Qa (Qv 10) (MOp.build [(Qr Qu 0), (Qr Qu 0), (D.str (ByteArray.mk #[]))] [(0, (1, (Qn 4))), (1, (1, (Qn 6))), (2, (1, (Qn 9)))])),
(Qa none (Ql 3 (Qn 2) (Qn 10)))]
def f25_c1 : MC := .reg true f25_r1
def f25_c2 : MC := MC.ret
def f25_c3 : MC := .seq f25_c1 f25_c2
def f25_c4 : MC := .seq f25_c0 f25_c3
noncomputable def f25_code : Code := (Go.Proofs.Tryd.f25.body).getD .skip
theorem f25_body : Go.Proofs.Tryd.f25.body = Qv f25_code := by kernel_rfl
theorem f25_tr : trC Go.Proofs.Tryd.prog [1] f25_code = Qv f25_c4 := by kernel_rfl
theorem f25_rs : rsOf Go.Proofs.Tryd.prog Go.Proofs.Tryd.f25.results.toList = Qv [(RV.cell 2 3 true)] := by kernel_rfl
theorem f25_nt : Go.Proofs.Tryd.f25.ntmps = 11 := by kernel_rfl
theorem f25_ok : callable Go.Proofs.Tryd.prog 25 = true := by kernel_rfl
theorem f25_in {gp : Heap} {args : List V} {res : V} (h : G ⟨Go.Proofs.Tryd.prog, gp, 0, [(RV.cell 2 3 true)], fun r c => r = res ∧ c = [], false⟩ [.code f25_c4, .fin] ⟨args ++ List.replicate (11 - args.length) .un, []⟩) : Does Go.Proofs.Tryd.prog gp 25 args res :=
  does_intro f25_ok Go.Proofs.Tryd.func25 f25_body f25_tr f25_rs (by rw [f25_nt]; exact h)
theorem f25_tri {gp : Heap} {args : List V} {pre : List Ch} {R : V → List Ch → Prop} (h : G ⟨Go.Proofs.Tryd.prog, gp, pre.length, [(RV.cell 2 3 true)], R, false⟩ [.code f25_c4, .fin] ⟨args ++ List.replicate (11 - args.length) .un, pre⟩) : Tri Go.Proofs.Tryd.prog gp 25 args pre R :=
  tri_intro Go.Proofs.Tryd.func25 f25_body f25_tr f25_rs (by rw [f25_nt]; exact h)
def f26_r0 : List MO := [
(Qa (Qv 2) (Qd (Qo (Qp (Qq (Qr Qu 0)))))),
(Qa (Qv 3) (Qd (Qo (Qp (Qq (Qr Qu 0))))))]
def f26_c0 : MC := .reg false f26_r0
def f26_r1 : List MO := [
(Qa (Qv 4) (MOp.alloc [(Qr Qu 0), (Qr Qu 0)]))]
def f26_c1 : MC := .reg false f26_r1
def f26_r2 : List MO := [
(Qa (Qv 5) (Qd (Qn 0))),
(Qa (Qv 6) (MOp.mkI 100 (Qn 4))),
(Qa (Qv 7) (Qh 46 [(Qn 5), (Qn 6)]))]
def f26_c2 : MC := .reg false f26_r2
def f26_r3 : List MO := [
(Qa (Qv 8) (Qg 0 (Qn 4))),
(Qa (Qv 9) (Qf 1 false (Qn 8))),
(Qa (Qv 10) (Qg 1 (Qn 4))),
(Qa (Qv 11) (Qf 1 false (Qn 10))),
(Qa (Qv 2) (Qd (Qn 9))),
(Qa (Qv 3) (Qd (Qn 11)))]
def f26_c3 : MC := .reg true f26_r3
def f26_c4 : MC := MC.ret
def f26_c5 : MC := .seq f26_c3 f26_c4
def f26_c6 : MC := MC.skip
def f26_c7 : MC := .cond (Qn 7) f26_c5 f26_c6
def f26_c8 : MC := .seq f26_c2 f26_c7
def f26_r9 : List MO := [
(Qa (Qv 2) (Qd (Qo (Qp (Qq (Qr Qu 0)))))),
(Qa (Qv 3) (Qd (Qo (Qp (Qq (Qr Qu 0))))))]
def f26_c9 : MC := .reg false f26_r9
def f26_c10 : MC := MC.ret
def f26_c11 : MC := .seq f26_c9 f26_c10
def f26_c12 : MC := .seq f26_c8 f26_c11
def f26_c13 : MC := .seq f26_c1 f26_c12
def f26_c14 : MC := .seq f26_c0 f26_c13
noncomputable def f26_code : Code := (Go.Proofs.Tryd.f26.body).getD .skip
theorem f26_body : Go.Proofs.Tryd.f26.body = Qv f26_code := by kernel_rfl
theorem f26_tr : trC Go.Proofs.Tryd.prog [] f26_code = Qv f26_c14 := by kernel_rfl
theorem f26_rs : rsOf Go.Proofs.Tryd.prog Go.Proofs.Tryd.f26.results.toList = Qv [(RV.t 2), (RV.t 3)] := by kernel_rfl
theorem f26_nt : Go.Proofs.Tryd.f26.ntmps = 12 := by kernel_rfl
theorem f26_ok : callable Go.Proofs.Tryd.prog 26 = true := by kernel_rfl
theorem f26_in {gp : Heap} {args : List V} {res : V} (h : G ⟨Go.Proofs.Tryd.prog, gp, 0, [(RV.t 2), (RV.t 3)], fun r c => r = res ∧ c = [], false⟩ [.code f26_c14, .fin] ⟨args ++ List.replicate (12 - args.length) .un, []⟩) : Does Go.Proofs.Tryd.prog gp 26 args res :=
  does_intro f26_ok Go.Proofs.Tryd.func26 f26_body f26_tr f26_rs (by rw [f26_nt]; exact h)
theorem f26_tri {gp : Heap} {args : List V} {pre : List Ch} {R : V → List Ch → Prop} (h : G ⟨Go.Proofs.Tryd.prog, gp, pre.length, [(RV.t 2), (RV.t 3)], R, false⟩ [.code f26_c14, .fin] ⟨args ++ List.replicate (12 - args.length) .un, pre⟩) : Tri Go.Proofs.Tryd.prog gp 26 args pre R :=
  tri_intro Go.Proofs.Tryd.func26 f26_body f26_tr f26_rs (by rw [f26_nt]; exact h)
def f27_r0 : List MO := [
(Qa (Qv 1) (MOp.ibox (Qn 0))),
(Qa (Qv 2) (MOp.alloc [D.nilI]))]
def f27_c0 : MC := .reg false f27_r0
def f27_r1 : List MO := [
(Qa (Qv 6) (Qg 1 (Qn 1))),
(Qa (Qv 7) (Qf 1 false (Qn 6))),
(Qa (Qv 8) (Qk Qt (Qn 7))),
(Qa (Qv 9) (Qe Qt Go.BinOp.gtr (Qn 8) (Qo (Qp (Qq (Qr Qu 200)))))),
(Qa (Qv 5) (Qd (Qn 9)))]
def f27_c1 : MC := .reg false f27_r1
def f27_r2 : List MO := [
(Qa (Qv 10) (MOp.build [(Qr Qu 0), (Qr Qu 0)] [(0, (1, (Qo (Qp (Qq (Qr Qu 0)))))), (1, (1, (Qo (Qp (Qq (Qr Qu 71))))))])),
(Qa (Qv 11) (MOp.mkI 98 (Qn 10))),
(Qa none (Ql 1 (Qn 2) (Qn 11)))]
def f27_c2 : MC := .reg false f27_r2
def f27_c3 : MC := MC.ret
def f27_c4 : MC := .seq f27_c2 f27_c3
def f27_r5 : List MO := [
(Qa (Qv 13) (Qf 2 true (Qn 1))),
(Qa (Qv 14) (Qg 0 (Qn 1))),
(Qa (Qv 15) (Qf 1 false (Qn 14))),
(Qa (Qv 16) (Qh 47 [(Qn 13), (Qn 15)])),
(Qa (Qv 17) (MOp.not (Qn 16))),
(Qa (Qv 12) (Qd (Qn 17)))]
def f27_c5 : MC := .reg false f27_r5
def f27_r6 : List MO := [
(Qa (Qv 18) (MOp.build [(Qr Qu 0), (Qr Qu 0)] [(0, (1, (Qo (Qp (Qq (Qr Qu (-1))))))), (1, (1, (Qo (Qp (Qq (Qr Qu 70))))))])),
(Qa (Qv 19) (MOp.mkI 98 (Qn 18))),
(Qa none (Ql 1 (Qn 2) (Qn 19)))]
def f27_c6 : MC := .reg false f27_r6
def f27_c7 : MC := MC.ret
def f27_c8 : MC := .seq f27_c6 f27_c7
def f27_c9 : MC := MC.skip
def f27_c10 : MC := .cond (Qn 12) f27_c8 f27_c9
def f27_c11 : MC := .seq f27_c5 f27_c10
def f27_c12 : MC := .cond (Qn 5) f27_c4 f27_c11
def f27_c13 : MC := .seq f27_c1 f27_c12
def f27_c14 : MC := .blk 0 f27_c13
def f27_r15 : List MO := [
(Qa (Qv 20) (Qf 2 true (Qn 1))),
(Qa (Qv 21) (Qh 48 [(Qn 20)]))]
def f27_c15 : MC := .reg false f27_r15
def f27_r16 : List MO := [
(Qa (Qv 3) (Qd (Qn 22)))]
def f27_c16 : MC := .reg false f27_r16
def f27_r17 : List MO := [
(Qa (Qv 4) (MOp.alloc [(Qr Qu 0), (Qr Qu 0), (Qr Qu 0), (D.str (ByteArray.mk #[])), (D.sl []), (D.sl []), (Qr Qu 0)])),
(Qa none (Ql 7 (Qn 4) (Qn 23)))]
def f27_c17 : MC := .reg false f27_r17
def f27_c18 : MC := .seq f27_c16 f27_c17
def f27_r19 : List MO := [
(Qa (Qv 24) (Qf 7 true (Qn 4))),
(Qa (Qv 25) (Qh 49 [(Qn 24)])),
(Qa (Qv 26) (MOp.not (Qn 25)))]
def f27_c19 : MC := .reg false f27_r19
def f27_r20 : List MO := [
(Qa (Qv 27) (Qd (Qn 3))),
(Qa (Qv 28) (MOp.build [(Qr Qu 0), (Qr Qu 0)] [(0, (1, (Qn 27))), (1, (1, (Qo (Qp (Qq (Qr Qu 70))))))])),
(Qa (Qv 29) (MOp.mkI 98 (Qn 28))),
(Qa none (Ql 1 (Qn 2) (Qn 29)))]
def f27_c20 : MC := .reg false f27_r20
def f27_c21 : MC := MC.ret
def f27_c22 : MC := .seq f27_c20 f27_c21
def f27_c23 : MC := MC.skip
def f27_c24 : MC := .cond (Qn 26) f27_c22 f27_c23
def f27_c25 : MC := .seq f27_c19 f27_c24
def f27_c26 : MC := .blk 2 f27_c25
def f27_c27 : MC := .rf (Qn 21) [22, 23] f27_c18 f27_c26
def f27_c28 : MC := .blk 1 f27_c27
def f27_c29 : MC := .seq f27_c15 f27_c28
def f27_r30 : List MO := [
(Qa none (Ql 1 (Qn 2) (Qo (Qp (Qq D.nilI)))))]
def f27_c30 : MC := .reg false f27_r30
def f27_c31 : MC := MC.ret
def f27_c32 : MC := .seq f27_c30 f27_c31
def f27_c33 : MC := .seq f27_c29 f27_c32
def f27_c34 : MC := .seq f27_c14 f27_c33
def f27_c35 : MC := .seq f27_c0 f27_c34
noncomputable def f27_code : Code := (Go.Proofs.Tryd.f27.body).getD .skip
theorem f27_body : Go.Proofs.Tryd.f27.body = Qv f27_code := by kernel_rfl
theorem f27_tr : trC Go.Proofs.Tryd.prog [1] f27_code = Qv f27_c35 := by kernel_rfl
theorem f27_rs : rsOf Go.Proofs.Tryd.prog Go.Proofs.Tryd.f27.results.toList = Qv [(RV.cell 2 1 false)] := by kernel_rfl
theorem f27_nt : Go.Proofs.Tryd.f27.ntmps = 30 := by kernel_rfl
theorem f27_ok : callable Go.Proofs.Tryd.prog 27 = true := by kernel_rfl
theorem f27_in {gp : Heap} {args : List V} {res : V} (h : G ⟨Go.Proofs.Tryd.prog, gp, 0, [(RV.cell 2 1 false)], fun r c => r = res ∧ c = [], false⟩ [.code f27_c35, .fin] ⟨args ++ List.replicate (30 - args.length) .un, []⟩) : Does Go.Proofs.Tryd.prog gp 27 args res :=
  does_intro f27_ok Go.Proofs.Tryd.func27 f27_body f27_tr f27_rs (by rw [f27_nt]; exact h)
theorem f27_tri {gp : Heap} {args : List V} {pre : List Ch} {R : V → List Ch → Prop} (h : G ⟨Go.Proofs.Tryd.prog, gp, pre.length, [(RV.cell 2 1 false)], R, false⟩ [.code f27_c35, .fin] ⟨args ++ List.replicate (30 - args.length) .un, pre⟩) : Tri Go.Proofs.Tryd.prog gp 27 args pre R :=
  tri_intro Go.Proofs.Tryd.func27 f27_body f27_tr f27_rs (by rw [f27_nt]; exact h)
def f28_r0 : List MO := [
(Qa (Qv 2) (MOp.ibox (Qn 0))),
(Qa (Qv 4) (MOp.alloc [(Qr Qu 0), (Qr Qu 0), (Qr Qu 0), (D.str (ByteArray.mk #[])), (D.sl []), (D.sl []), (Qr Qu 0)])),
(Qa (Qv 5) (Qd (Qo (Qp (Qq (Qr Qu 0))))))]
def f28_c0 : MC := .reg false f28_r0
def f28_r1 : List MO := [
(Qa (Qv 6) (Qf 2 true (Qn 2))),
(Qa (Qv 7) (Qd (Qn 1))),
(Qa (Qv 8) (Qh 47 [(Qn 6), (Qn 7)])),
(Qa (Qv 9) (MOp.not (Qn 8)))]
def f28_c1 : MC := .reg false f28_r1
def f28_r2 : List MO := [
(Qa (Qv 10) (MOp.build [(Qr Qu 0), (Qr Qu 0), (Qr Qu 0), (D.str (ByteArray.mk #[])), (D.sl []), (D.sl []), (Qr Qu 0)] [])),
(Qa none (Ql 7 (Qn 4) (Qn 10))),
(Qa (Qv 5) (Qd (Qo (Qp (Qq (Qr Qu 2))))))]
def f28_c2 : MC := .reg false f28_r2
def f28_c3 : MC := MC.ret
def f28_c4 : MC := .seq f28_c2 f28_c3
def f28_c5 : MC := MC.skip
def f28_c6 : MC := .cond (Qn 9) f28_c4 f28_c5
def f28_c7 : MC := .seq f28_c1 f28_c6
def f28_r8 : List MO := [
(Qa (Qv 11) (Qg 1 (Qn 2))),
(Qa (Qv 12) (Qf 1 false (Qn 11))),
(Qa (Qv 13) (Qd (Qn 1))),
(Qa (Qv 14) (Qj 6 (Qn 12) (Qn 13))),
(Qa (Qv 15) (Qf 6 true (Qn 14))),
(Qa (Qv 16) (Qg 1 (Qn 2))),
(Qa (Qv 17) (Qf 1 false (Qn 16))),
(Qa (Qv 18) (Qk Qt (Qn 17))),
(Qa (Qv 19) (MOp.build [(Qr Qu 0), (Qr Qu 0), (Qr Qu 0), (D.str (ByteArray.mk #[])), (D.sl []), (D.sl []), (Qr Qu 0)] [(0, (6, (Qn 15))), (6, (1, (Qn 18)))])),
(Qa none (Ql 7 (Qn 4) (Qn 19))),
(Qa (Qv 5) (Qd (Qo (Qp (Qq (Qr Qu 0))))))]
def f28_c8 : MC := .reg true f28_r8
def f28_c9 : MC := MC.ret
def f28_c10 : MC := .seq f28_c8 f28_c9
def f28_c11 : MC := .seq f28_c7 f28_c10
def f28_c12 : MC := .seq f28_c0 f28_c11
noncomputable def f28_code : Code := (Go.Proofs.Tryd.f28.body).getD .skip
theorem f28_body : Go.Proofs.Tryd.f28.body = Qv f28_code := by kernel_rfl
theorem f28_tr : trC Go.Proofs.Tryd.prog [2] f28_code = Qv f28_c12 := by kernel_rfl
theorem f28_rs : rsOf Go.Proofs.Tryd.prog Go.Proofs.Tryd.f28.results.toList = Qv [(RV.cell 4 7 true), (RV.t 5)] := by kernel_rfl
theorem f28_nt : Go.Proofs.Tryd.f28.ntmps = 20 := by kernel_rfl
theorem f28_ok : callable Go.Proofs.Tryd.prog 28 = true := by kernel_rfl
theorem f28_in {gp : Heap} {args : List V} {res : V} (h : G ⟨Go.Proofs.Tryd.prog, gp, 0, [(RV.cell 4 7 true), (RV.t 5)], fun r c => r = res ∧ c = [], false⟩ [.code f28_c12, .fin] ⟨args ++ List.replicate (20 - args.length) .un, []⟩) : Does Go.Proofs.Tryd.prog gp 28 args res :=
  does_intro f28_ok Go.Proofs.Tryd.func28 f28_body f28_tr f28_rs (by rw [f28_nt]; exact h)
theorem f28_tri {gp : Heap} {args : List V} {pre : List Ch} {R : V → List Ch → Prop} (h : G ⟨Go.Proofs.Tryd.prog, gp, pre.length, [(RV.cell 4 7 true), (RV.t 5)], R, false⟩ [.code f28_c12, .fin] ⟨args ++ List.replicate (20 - args.length) .un, pre⟩) : Tri Go.Proofs.Tryd.prog gp 28 args pre R :=
  tri_intro Go.Proofs.Tryd.func28 f28_body f28_tr f28_rs (by rw [f28_nt]; exact h)
def f29_r0 : List MO := [
(Qa (Qv 2) (Qd (Qo (Qp A.nil))))]
def f29_c0 : MC := .reg false f29_r0
def f29_r1 : List MO := [
(Qa (Qv 3) (Qd (Qn 0))),
(Qa (Qv 4) (MOp.nilq NK.sl false (Qn 3)))]
def f29_c1 : MC := .reg false f29_r1
def f29_r2 : List MO := [
(Qa (Qv 2) (Qd (Qo (Qp A.nil))))]
def f29_c2 : MC := .reg false f29_r2
def f29_c3 : MC := MC.ret
def f29_c4 : MC := .seq f29_c2 f29_c3
def f29_c5 : MC := MC.skip
def f29_c6 : MC := .cond (Qn 4) f29_c4 f29_c5
def f29_c7 : MC := .seq f29_c1 f29_c6
def f29_r8 : List MO := [
(Qa (Qv 5) (MOp.bslO 1 [(Qr Qu 0)] 0 [])),
(Qa (Qv 6) (Qd (Qn 0))),
(Qa (Qv 7) (MOp.app 1 8 (Qn 5) (Qn 6))),
(Qa (Qv 2) (Qd (Qn 7)))]
def f29_c8 : MC := .reg false f29_r8
def f29_c9 : MC := MC.ret
def f29_c10 : MC := .seq f29_c8 f29_c9
def f29_c11 : MC := .seq f29_c7 f29_c10
def f29_c12 : MC := .seq f29_c0 f29_c11
noncomputable def f29_code : Code := (Go.Proofs.Tryd.f29.body).getD .skip
theorem f29_body : Go.Proofs.Tryd.f29.body = Qv f29_code := by kernel_rfl
theorem f29_tr : trC Go.Proofs.Tryd.prog [5] f29_code = Qv f29_c12 := by kernel_rfl
theorem f29_rs : rsOf Go.Proofs.Tryd.prog Go.Proofs.Tryd.f29.results.toList = Qv [(RV.t 2)] := by kernel_rfl
theorem f29_nt : Go.Proofs.Tryd.f29.ntmps = 8 := by kernel_rfl
theorem f29_ok : callable Go.Proofs.Tryd.prog 29 = true := by kernel_rfl
theorem f29_in {gp : Heap} {args : List V} {res : V} (h : G ⟨Go.Proofs.Tryd.prog, gp, 0, [(RV.t 2)], fun r c => r = res ∧ c = [], false⟩ [.code f29_c12, .fin] ⟨args ++ List.replicate (8 - args.length) .un, []⟩) : Does Go.Proofs.Tryd.prog gp 29 args res :=
  does_intro f29_ok Go.Proofs.Tryd.func29 f29_body f29_tr f29_rs (by rw [f29_nt]; exact h)
theorem f29_tri {gp : Heap} {args : List V} {pre : List Ch} {R : V → List Ch → Prop} (h : G ⟨Go.Proofs.Tryd.prog, gp, pre.length, [(RV.t 2)], R, false⟩ [.code f29_c12, .fin] ⟨args ++ List.replicate (8 - args.length) .un, pre⟩) : Tri Go.Proofs.Tryd.prog gp 29 args pre R :=
  tri_intro Go.Proofs.Tryd.func29 f29_body f29_tr f29_rs (by rw [f29_nt]; exact h)
def f30_r0 : List MO := [
(Qa (Qv 1) (MOp.ibox (Qn 0))),
(Qa (Qv 2) (Qd (Qo (Qp A.nil))))]
def f30_c0 : MC := .reg false f30_r0
def f30_r1 : List MO := [
(Qa (Qv 6) (Qg 0 (Qn 1))),
(Qa (Qv 7) (Qg 0 (Qn 6))),
(Qa (Qv 8) (Qf 1 false (Qn 7))),
(Qa (Qv 9) (Qe Qt Go.BinOp.neq (Qn 8) (Qo (Qp (Qq (Qr Qu 2)))))),
(Qa (Qv 10) (Qd (Qn 9))),
(Qb 10 false (Qv 11)),
(Qa (Qv 11) (Qf 7 true (Qn 1))),
(Qb 10 false (Qv 12)),
(Qa (Qv 12) (Qh 50 [(Qn 11)])),
(Qb 10 false (Qv 13)),
(Qa (Qv 13) (MOp.not (Qn 12))),
(Qa (Qv 14) (Qm (Qn 10) (Qo (Qp (Qq (Qs true)))) (Qn 13)))]
def f30_c1 : MC := .reg false f30_r1
def f30_r2 : List MO := [
(Qa (Qv 2) (Qd (Qo (Qp A.nil))))]
def f30_c2 : MC := .reg false f30_r2
def f30_c3 : MC := MC.ret
def f30_c4 : MC := .seq f30_c2 f30_c3
def f30_c5 : MC := MC.skip
def f30_c6 : MC := .cond (Qn 14) f30_c4 f30_c5
def f30_c7 : MC := .seq f30_c1 f30_c6
def f30_r8 : List MO := [
(Qa (Qv 3) (Qd (Qo (Qp A.nil))))]
def f30_c8 : MC := .reg false f30_r8
def f30_r9 : List MO := [
(Qa (Qv 15) (Qg 0 (Qn 1))),
(Qa (Qv 16) (Qg 4 (Qn 15))),
(Qa (Qv 17) (Qf 1 false (Qn 16))),
(Qa (Qv 18) (Qk Qt (Qn 17))),
(Qa (Qv 19) (Qd (Qo (Qp (Qq (Qr Qu 0))))))]
def f30_c9 : MC := .reg false f30_r9
def f30_r10 : List MO := [
(Qa (Qv 20) (Qe Qt Go.BinOp.lss (Qn 19) (Qn 18)))]
def f30_c10 : MC := .reg false f30_r10
def f30_c11 : MC := MC.skip
def f30_c12 : MC := (MC.exit 0)
def f30_c13 : MC := .cond (Qn 20) f30_c11 f30_c12
def f30_r14 : List MO := [
(Qa (Qv 21) (Qd (Qn 19))),
(Qa (Qv 22) (Qj 3 (Qn 17) (Qn 19))),
(Qa (Qv 23) (Qf 3 true (Qn 22))),
(Qa (Qv 5) (MOp.alloc [(Qr Qu 0), (Qr Qu 0), (D.str (ByteArray.mk #[]))])),
(Qa (Qv 4) (Qd (Qn 21))),
(Qa none (Ql 3 (Qn 5) (Qn 23)))]
def f30_c14 : MC := .reg false f30_r14
def f30_r15 : List MO := [
(Qa (Qv 24) (Qd (Qn 3))),
(Qa (Qv 25) (Qf 3 true (Qn 5))),
(Qa (Qv 26) (Qg 0 (Qn 1))),
(Qa (Qv 27) (Qg 5 (Qn 26))),
(Qa (Qv 28) (Qf 1 false (Qn 27))),
(Qa (Qv 29) (Qd (Qn 4))),
(Qa (Qv 30) (Qj 1 (Qn 28) (Qn 29))),
(Qa (Qv 31) (Qf 1 false (Qn 30))),
(Qa (Qv 32) (MOp.build [(Qr Qu 0), (Qr Qu 0), (D.str (ByteArray.mk #[])), (Qr Qu 0)] [(0, (3, (Qn 25))), (3, (1, (Qn 31)))])),
(Qa (Qv 33) (MOp.bslice 4 [(Qr Qu 0), (Qr Qu 0), (D.str (ByteArray.mk #[])), (Qr Qu 0)] 1 [(0, (Qn 32))])),
(Qa (Qv 34) (MOp.app 4 40 (Qn 24) (Qn 33))),
(Qa (Qv 3) (Qd (Qn 34)))]
def f30_c15 : MC := .reg true f30_r15
def f30_c16 : MC := .seq f30_c14 f30_c15
def f30_c17 : MC := .blk 1 f30_c16
def f30_r18 : List MO := [
(Qa (Qv 35) (Qe Qt Go.BinOp.add (Qn 19) (Qo (Qp (Qq (Qr Qu 1)))))),
(Qa (Qv 19) (Qd (Qn 35)))]
def f30_c18 : MC := .reg false f30_r18
def f30_c19 : MC := .seq f30_c17 f30_c18
def f30_c20 : MC := .seq f30_c13 f30_c19
def f30_c21 : MC := .seq f30_c10 f30_c20
def f30_c22 : MC := .loop f30_c21
def f30_c23 : MC := .blk 0 f30_c22
def f30_c24 : MC := .seq f30_c9 f30_c23
def f30_r25 : List MO := [
(Qa (Qv 36) (Qd (Qn 3))),
(Qa (Qv 37) (Qh 51 [(Qn 36), (Qo (Qp (Qq (D.fn (Go.Fn.func 52) []))))]))]
def f30_c25 : MC := .reg false f30_r25
def f30_r26 : List MO := [
(Qa (Qv 38) (Qd (Qn 3))),
(Qa (Qv 2) (Qd (Qn 38)))]
def f30_c26 : MC := .reg false f30_r26
def f30_c27 : MC := MC.ret
def f30_c28 : MC := .seq f30_c26 f30_c27
def f30_c29 : MC := .seq f30_c25 f30_c28
def f30_c30 : MC := .seq f30_c24 f30_c29
def f30_c31 : MC := .seq f30_c8 f30_c30
def f30_c32 : MC := .seq f30_c7 f30_c31
def f30_c33 : MC := .seq f30_c0 f30_c32
noncomputable def f30_code : Code := (Go.Proofs.Tryd.f30.body).getD .skip
theorem f30_body : Go.Proofs.Tryd.f30.body = Qv f30_code := by kernel_rfl
theorem f30_tr : trC Go.Proofs.Tryd.prog [1] f30_code = Qv f30_c33 := by kernel_rfl
theorem f30_rs : rsOf Go.Proofs.Tryd.prog Go.Proofs.Tryd.f30.results.toList = Qv [(RV.t 2)] := by kernel_rfl
theorem f30_nt : Go.Proofs.Tryd.f30.ntmps = 39 := by kernel_rfl
theorem f30_ok : callable Go.Proofs.Tryd.prog 30 = true := by kernel_rfl
theorem f30_in {gp : Heap} {args : List V} {res : V} (h : G ⟨Go.Proofs.Tryd.prog, gp, 0, [(RV.t 2)], fun r c => r = res ∧ c = [], false⟩ [.code f30_c33, .fin] ⟨args ++ List.replicate (39 - args.length) .un, []⟩) : Does Go.Proofs.Tryd.prog gp 30 args res :=
  does_intro f30_ok Go.Proofs.Tryd.func30 f30_body f30_tr f30_rs (by rw [f30_nt]; exact h)
theorem f30_tri {gp : Heap} {args : List V} {pre : List Ch} {R : V → List Ch → Prop} (h : G ⟨Go.Proofs.Tryd.prog, gp, pre.length, [(RV.t 2)], R, false⟩ [.code f30_c33, .fin] ⟨args ++ List.replicate (39 - args.length) .un, pre⟩) : Tri Go.Proofs.Tryd.prog gp 30 args pre R :=
  tri_intro Go.Proofs.Tryd.func30 f30_body f30_tr f30_rs (by rw [f30_nt]; exact h)
def f31_r0 : List MO := [
(Qa (Qv 2) (Qd (Qo (Qp (Qq (Qr Qu 0))))))]
def f31_c0 : MC := .reg false f31_r0
def f31_r1 : List MO := [
(Qa (Qv 3) (Qd (Qo (Qp (Qq (Qr Qu 0))))))]
def f31_c1 : MC := .reg false f31_r1
def f31_r2 : List MO := [
(Qa (Qv 6) (Qd (Qn 0))),
(Qa (Qv 7) (Qk Qt (Qn 6))),
(Qa (Qv 8) (Qd (Qo (Qp (Qq (Qr Qu 0))))))]
def f31_c2 : MC := .reg false f31_r2
def f31_r3 : List MO := [
(Qa (Qv 9) (Qe Qt Go.BinOp.lss (Qn 8) (Qn 7)))]
def f31_c3 : MC := .reg false f31_r3
def f31_c4 : MC := MC.skip
def f31_c5 : MC := (MC.exit 0)
def f31_c6 : MC := .cond (Qn 9) f31_c4 f31_c5
def f31_r7 : List MO := [
(Qa (Qv 10) (Qj 1 (Qn 6) (Qn 8))),
(Qa (Qv 11) (Qf 1 false (Qn 10))),
(Qa (Qv 5) (Qd (Qn 11)))]
def f31_c7 : MC := .reg false f31_r7
def f31_r8 : List MO := [
(Qa (Qv 12) (Qd (Qn 5))),
(Qa (Qv 13) (Qd (Qn 3))),
(Qa (Qv 14) (Qe Qt Go.BinOp.neq (Qn 12) (Qn 13)))]
def f31_c8 : MC := .reg false f31_r8
def f31_r9 : List MO := [
(Qa (Qv 15) (Qd (Qn 5))),
(Qa (Qv 2) (Qd (Qn 15)))]
def f31_c9 : MC := .reg false f31_r9
def f31_c10 : MC := MC.ret
def f31_c11 : MC := .seq f31_c9 f31_c10
def f31_c12 : MC := MC.skip
def f31_c13 : MC := .cond (Qn 14) f31_c11 f31_c12
def f31_c14 : MC := .seq f31_c8 f31_c13
def f31_c15 : MC := .seq f31_c7 f31_c14
def f31_c16 : MC := .blk 1 f31_c15
def f31_r17 : List MO := [
(Qa (Qv 16) (Qe Qt Go.BinOp.add (Qn 8) (Qo (Qp (Qq (Qr Qu 1)))))),
(Qa (Qv 8) (Qd (Qn 16)))]
def f31_c17 : MC := .reg false f31_r17
def f31_c18 : MC := .seq f31_c16 f31_c17
def f31_c19 : MC := .seq f31_c6 f31_c18
def f31_c20 : MC := .seq f31_c3 f31_c19
def f31_c21 : MC := .loop f31_c20
def f31_c22 : MC := .blk 0 f31_c21
def f31_c23 : MC := .seq f31_c2 f31_c22
def f31_r24 : List MO := [
(Qa (Qv 17) (Qd (Qn 3))),
(Qa (Qv 2) (Qd (Qn 17)))]
def f31_c24 : MC := .reg false f31_r24
def f31_c25 : MC := MC.ret
def f31_c26 : MC := .seq f31_c24 f31_c25
def f31_c27 : MC := .seq f31_c23 f31_c26
def f31_c28 : MC := .seq f31_c1 f31_c27
def f31_c29 : MC := .seq f31_c0 f31_c28
noncomputable def f31_code : Code := (Go.Proofs.Tryd.f31.body).getD .skip
theorem f31_body : Go.Proofs.Tryd.f31.body = Qv f31_code := by kernel_rfl
theorem f31_tr : trC Go.Proofs.Tryd.prog [] f31_code = Qv f31_c29 := by kernel_rfl
theorem f31_rs : rsOf Go.Proofs.Tryd.prog Go.Proofs.Tryd.f31.results.toList = Qv [(RV.t 2)] := by kernel_rfl
theorem f31_nt : Go.Proofs.Tryd.f31.ntmps = 18 := by kernel_rfl
theorem f31_ok : callable Go.Proofs.Tryd.prog 31 = true := by kernel_rfl
theorem f31_in {gp : Heap} {args : List V} {res : V} (h : G ⟨Go.Proofs.Tryd.prog, gp, 0, [(RV.t 2)], fun r c => r = res ∧ c = [], false⟩ [.code f31_c29, .fin] ⟨args ++ List.replicate (18 - args.length) .un, []⟩) : Does Go.Proofs.Tryd.prog gp 31 args res :=
  does_intro f31_ok Go.Proofs.Tryd.func31 f31_body f31_tr f31_rs (by rw [f31_nt]; exact h)
theorem f31_tri {gp : Heap} {args : List V} {pre : List Ch} {R : V → List Ch → Prop} (h : G ⟨Go.Proofs.Tryd.prog, gp, pre.length, [(RV.t 2)], R, false⟩ [.code f31_c29, .fin] ⟨args ++ List.replicate (18 - args.length) .un, pre⟩) : Tri Go.Proofs.Tryd.prog gp 31 args pre R :=
  tri_intro Go.Proofs.Tryd.func31 f31_body f31_tr f31_rs (by rw [f31_nt]; exact h)
def f32_r0 : List MO := [
(Qa (Qv 4) (Qd (Qo (Qp (Qq (Qr Qu 0))))))]
def f32_c0 : MC := .reg false f32_r0
def f32_r1 : List MO := [
(Qa (Qv 7) (Qd (Qn 0))),
(Qa (Qv 8) (Qh 53 [(Qn 7)])),
(Qa (Qv 5) (Qd (Qn 8)))]
def f32_c1 : MC := .reg false f32_r1
def f32_r2 : List MO := [
(Qa (Qv 9) (Qd (Qn 1))),
(Qa (Qv 10) (Qh 53 [(Qn 9)])),
(Qa (Qv 6) (Qd (Qn 10)))]
def f32_c2 : MC := .reg false f32_r2
def f32_r3 : List MO := [
(Qa (Qv 11) (Qd (Qn 5)))]
def f32_c3 : MC := .reg false f32_r3
def f32_r4 : List MO := [
(Qa (Qv 12) (Qd (Qn 6)))]
def f32_c4 : MC := .reg false f32_r4
def f32_r5 : List MO := [
(Qa (Qv 4) (Qd (Qo (Qp (Qq (Qr Qu 0))))))]
def f32_c5 : MC := .reg false f32_r5
def f32_c6 : MC := MC.ret
def f32_c7 : MC := .seq f32_c5 f32_c6
def f32_c8 : MC := MC.skip
def f32_c9 : MC := .cond (Qn 12) f32_c7 f32_c8
def f32_c10 : MC := .seq f32_c4 f32_c9
def f32_r11 : List MO := [
(Qa (Qv 4) (Qd (Qo (Qp (Qq (Qr Qu (-1)))))))]
def f32_c11 : MC := .reg false f32_r11
def f32_c12 : MC := MC.ret
def f32_c13 : MC := .seq f32_c11 f32_c12
def f32_c14 : MC := .seq f32_c10 f32_c13
def f32_c15 : MC := MC.skip
def f32_c16 : MC := .cond (Qn 11) f32_c14 f32_c15
def f32_c17 : MC := .seq f32_c3 f32_c16
def f32_r18 : List MO := [
(Qa (Qv 13) (Qd (Qn 6)))]
def f32_c18 : MC := .reg false f32_r18
def f32_r19 : List MO := [
(Qa (Qv 4) (Qd (Qo (Qp (Qq (Qr Qu 1))))))]
def f32_c19 : MC := .reg false f32_r19
def f32_c20 : MC := MC.ret
def f32_c21 : MC := .seq f32_c19 f32_c20
def f32_c22 : MC := MC.skip
def f32_c23 : MC := .cond (Qn 13) f32_c21 f32_c22
def f32_c24 : MC := .seq f32_c18 f32_c23
def f32_r25 : List MO := [
(Qa (Qv 14) (Qd (Qn 0))),
(Qa (Qv 15) (Qd (Qn 1))),
(Qa (Qv 16) (Qe Qt Go.BinOp.lss (Qn 14) (Qn 15)))]
def f32_c25 : MC := .reg false f32_r25
def f32_r26 : List MO := [
(Qa (Qv 4) (Qd (Qo (Qp (Qq (Qr Qu (-1)))))))]
def f32_c26 : MC := .reg false f32_r26
def f32_c27 : MC := MC.ret
def f32_c28 : MC := .seq f32_c26 f32_c27
def f32_c29 : MC := MC.skip
def f32_c30 : MC := .cond (Qn 16) f32_c28 f32_c29
def f32_c31 : MC := .seq f32_c25 f32_c30
def f32_r32 : List MO := [
(Qa (Qv 17) (Qd (Qn 0))),
(Qa (Qv 18) (Qd (Qn 1))),
(Qa (Qv 19) (Qe Qt Go.BinOp.gtr (Qn 17) (Qn 18)))]
def f32_c32 : MC := .reg false f32_r32
def f32_r33 : List MO := [
(Qa (Qv 4) (Qd (Qo (Qp (Qq (Qr Qu 1))))))]
def f32_c33 : MC := .reg false f32_r33
def f32_c34 : MC := MC.ret
def f32_c35 : MC := .seq f32_c33 f32_c34
def f32_c36 : MC := MC.skip
def f32_c37 : MC := .cond (Qn 19) f32_c35 f32_c36
def f32_c38 : MC := .seq f32_c32 f32_c37
def f32_r39 : List MO := [
(Qa (Qv 4) (Qd (Qo (Qp (Qq (Qr Qu 0))))))]
def f32_c39 : MC := .reg false f32_r39
def f32_c40 : MC := MC.ret
def f32_c41 : MC := .seq f32_c39 f32_c40
def f32_c42 : MC := .seq f32_c38 f32_c41
def f32_c43 : MC := .seq f32_c31 f32_c42
def f32_c44 : MC := .seq f32_c24 f32_c43
def f32_c45 : MC := .seq f32_c17 f32_c44
def f32_c46 : MC := .seq f32_c2 f32_c45
def f32_c47 : MC := .seq f32_c1 f32_c46
def f32_c48 : MC := .seq f32_c0 f32_c47
noncomputable def f32_code : Code := (Go.Proofs.Tryd.f32.body).getD .skip
theorem f32_body : Go.Proofs.Tryd.f32.body = Qv f32_code := by kernel_rfl
theorem f32_tr : trC Go.Proofs.Tryd.prog [] f32_code = Qv f32_c48 := by kernel_rfl
theorem f32_rs : rsOf Go.Proofs.Tryd.prog Go.Proofs.Tryd.f32.results.toList = Qv [(RV.t 4)] := by kernel_rfl
theorem f32_nt : Go.Proofs.Tryd.f32.ntmps = 20 := by kernel_rfl
theorem f32_ok : callable Go.Proofs.Tryd.prog 32 = true := by kernel_rfl
theorem f32_in {gp : Heap} {args : List V} {res : V} (h : G ⟨Go.Proofs.Tryd.prog, gp, 0, [(RV.t 4)], fun r c => r = res ∧ c = [], false⟩ [.code f32_c48, .fin] ⟨args ++ List.replicate (20 - args.length) .un, []⟩) : Does Go.Proofs.Tryd.prog gp 32 args res :=
  does_intro f32_ok Go.Proofs.Tryd.func32 f32_body f32_tr f32_rs (by rw [f32_nt]; exact h)
theorem f32_tri {gp : Heap} {args : List V} {pre : List Ch} {R : V → List Ch → Prop} (h : G ⟨Go.Proofs.Tryd.prog, gp, pre.length, [(RV.t 4)], R, false⟩ [.code f32_c48, .fin] ⟨args ++ List.replicate (20 - args.length) .un, pre⟩) : Tri Go.Proofs.Tryd.prog gp 32 args pre R :=
  tri_intro Go.Proofs.Tryd.func32 f32_body f32_tr f32_rs (by rw [f32_nt]; exact h)
def f33_r0 : List MO := [
(Qa (Qv 4) (Qd (Qo (Qp (Qq (Qr Qu 0))))))]
def f33_c0 : MC := .reg false f33_r0
def f33_r1 : List MO := [
(Qa (Qv 7) (Qd (Qn 0))),
(Qa (Qv 8) (Qh 54 [(Qn 7)])),
(Qa (Qv 5) (Qd (Qn 8)))]
def f33_c1 : MC := .reg false f33_r1
def f33_r2 : List MO := [
(Qa (Qv 9) (Qd (Qn 1))),
(Qa (Qv 10) (Qh 54 [(Qn 9)])),
(Qa (Qv 6) (Qd (Qn 10)))]
def f33_c2 : MC := .reg false f33_r2
def f33_r3 : List MO := [
(Qa (Qv 11) (Qd (Qn 5)))]
def f33_c3 : MC := .reg false f33_r3
def f33_r4 : List MO := [
(Qa (Qv 12) (Qd (Qn 6)))]
def f33_c4 : MC := .reg false f33_r4
def f33_r5 : List MO := [
(Qa (Qv 4) (Qd (Qo (Qp (Qq (Qr Qu 0))))))]
def f33_c5 : MC := .reg false f33_r5
def f33_c6 : MC := MC.ret
def f33_c7 : MC := .seq f33_c5 f33_c6
def f33_c8 : MC := MC.skip
def f33_c9 : MC := .cond (Qn 12) f33_c7 f33_c8
def f33_c10 : MC := .seq f33_c4 f33_c9
def f33_r11 : List MO := [
(Qa (Qv 4) (Qd (Qo (Qp (Qq (Qr Qu (-1)))))))]
def f33_c11 : MC := .reg false f33_r11
def f33_c12 : MC := MC.ret
def f33_c13 : MC := .seq f33_c11 f33_c12
def f33_c14 : MC := .seq f33_c10 f33_c13
def f33_c15 : MC := MC.skip
def f33_c16 : MC := .cond (Qn 11) f33_c14 f33_c15
def f33_c17 : MC := .seq f33_c3 f33_c16
def f33_r18 : List MO := [
(Qa (Qv 13) (Qd (Qn 6)))]
def f33_c18 : MC := .reg false f33_r18
def f33_r19 : List MO := [
(Qa (Qv 4) (Qd (Qo (Qp (Qq (Qr Qu 1))))))]
def f33_c19 : MC := .reg false f33_r19
def f33_c20 : MC := MC.ret
def f33_c21 : MC := .seq f33_c19 f33_c20
def f33_c22 : MC := MC.skip
def f33_c23 : MC := .cond (Qn 13) f33_c21 f33_c22
def f33_c24 : MC := .seq f33_c18 f33_c23
def f33_r25 : List MO := [
(Qa (Qv 14) (Qd (Qn 0))),
(Qa (Qv 15) (Qd (Qn 1))),
(Qa (Qv 16) (Qe Leaf.s Go.BinOp.lss (Qn 14) (Qn 15)))]
def f33_c25 : MC := .reg false f33_r25
def f33_r26 : List MO := [
(Qa (Qv 4) (Qd (Qo (Qp (Qq (Qr Qu (-1)))))))]
def f33_c26 : MC := .reg false f33_r26
def f33_c27 : MC := MC.ret
def f33_c28 : MC := .seq f33_c26 f33_c27
def f33_c29 : MC := MC.skip
def f33_c30 : MC := .cond (Qn 16) f33_c28 f33_c29
def f33_c31 : MC := .seq f33_c25 f33_c30
def f33_r32 : List MO := [
(Qa (Qv 17) (Qd (Qn 0))),
(Qa (Qv 18) (Qd (Qn 1))),
(Qa (Qv 19) (Qe Leaf.s Go.BinOp.gtr (Qn 17) (Qn 18)))]
def f33_c32 : MC := .reg false f33_r32
def f33_r33 : List MO := [
(Qa (Qv 4) (Qd (Qo (Qp (Qq (Qr Qu 1))))))]
def f33_c33 : MC := .reg false f33_r33
def f33_c34 : MC := MC.ret
def f33_c35 : MC := .seq f33_c33 f33_c34
def f33_c36 : MC := MC.skip
def f33_c37 : MC := .cond (Qn 19) f33_c35 f33_c36
def f33_c38 : MC := .seq f33_c32 f33_c37
def f33_r39 : List MO := [
(Qa (Qv 4) (Qd (Qo (Qp (Qq (Qr Qu 0))))))]
def f33_c39 : MC := .reg false f33_r39
def f33_c40 : MC := MC.ret
def f33_c41 : MC := .seq f33_c39 f33_c40
def f33_c42 : MC := .seq f33_c38 f33_c41
def f33_c43 : MC := .seq f33_c31 f33_c42
def f33_c44 : MC := .seq f33_c24 f33_c43
def f33_c45 : MC := .seq f33_c17 f33_c44
def f33_c46 : MC := .seq f33_c2 f33_c45
def f33_c47 : MC := .seq f33_c1 f33_c46
def f33_c48 : MC := .seq f33_c0 f33_c47
noncomputable def f33_code : Code := (Go.Proofs.Tryd.f33.body).getD .skip
theorem f33_body : Go.Proofs.Tryd.f33.body = Qv f33_code := by kernel_rfl
theorem f33_tr : trC Go.Proofs.Tryd.prog [] f33_code = Qv f33_c48 := by kernel_rfl
theorem f33_rs : rsOf Go.Proofs.Tryd.prog Go.Proofs.Tryd.f33.results.toList = Qv [(RV.t 4)] := by kernel_rfl
theorem f33_nt : Go.Proofs.Tryd.f33.ntmps = 20 := by kernel_rfl
theorem f33_ok : callable Go.Proofs.Tryd.prog 33 = true := by kernel_rfl
theorem f33_in {gp : Heap} {args : List V} {res : V} (h : G ⟨Go.Proofs.Tryd.prog, gp, 0, [(RV.t 4)], fun r c => r = res ∧ c = [], false⟩ [.code f33_c48, .fin] ⟨args ++ List.replicate (20 - args.length) .un, []⟩) : Does Go.Proofs.Tryd.prog gp 33 args res :=
  does_intro f33_ok Go.Proofs.Tryd.func33 f33_body f33_tr f33_rs (by rw [f33_nt]; exact h)
theorem f33_tri {gp : Heap} {args : List V} {pre : List Ch} {R : V → List Ch → Prop} (h : G ⟨Go.Proofs.Tryd.prog, gp, pre.length, [(RV.t 4)], R, false⟩ [.code f33_c48, .fin] ⟨args ++ List.replicate (20 - args.length) .un, pre⟩) : Tri Go.Proofs.Tryd.prog gp 33 args pre R :=
  tri_intro Go.Proofs.Tryd.func33 f33_body f33_tr f33_rs (by rw [f33_nt]; exact h)
def f42_r0 : List MO := [
(Qa (Qv 4) (Qd (Qo (Qp (Qq (Qs false))))))]
def f42_c0 : MC := .reg false f42_r0
def f42_r1 : List MO := [
(Qa (Qv 6) (Qd (Qn 0))),
(Qa (Qv 7) (Qk Qt (Qn 6))),
(Qa (Qv 8) (Qd (Qn 1))),
(Qa (Qv 9) (Qk Qt (Qn 8))),
(Qa (Qv 10) (Qe Qt Go.BinOp.neq (Qn 7) (Qn 9)))]
def f42_c1 : MC := .reg false f42_r1
def f42_r2 : List MO := [
(Qa (Qv 4) (Qd (Qo (Qp (Qq (Qs false))))))]
def f42_c2 : MC := .reg false f42_r2
def f42_c3 : MC := MC.ret
def f42_c4 : MC := .seq f42_c2 f42_c3
def f42_c5 : MC := MC.skip
def f42_c6 : MC := .cond (Qn 10) f42_c4 f42_c5
def f42_c7 : MC := .seq f42_c1 f42_c6
def f42_r8 : List MO := [
(Qa (Qv 11) (Qd (Qn 0))),
(Qa (Qv 12) (Qk Qt (Qn 11))),
(Qa (Qv 13) (Qd (Qo (Qp (Qq (Qr Qu 0))))))]
def f42_c8 : MC := .reg false f42_r8
def f42_r9 : List MO := [
(Qa (Qv 14) (Qe Qt Go.BinOp.lss (Qn 13) (Qn 12)))]
def f42_c9 : MC := .reg false f42_r9
def f42_c10 : MC := MC.skip
def f42_c11 : MC := (MC.exit 0)
def f42_c12 : MC := .cond (Qn 14) f42_c10 f42_c11
def f42_r13 : List MO := [
(Qa (Qv 15) (Qd (Qn 13))),
(Qa (Qv 5) (Qd (Qn 15)))]
def f42_c13 : MC := .reg false f42_r13
def f42_r14 : List MO := [
(Qa (Qv 16) (Qd (Qn 0))),
(Qa (Qv 17) (Qd (Qn 5))),
(Qa (Qv 18) (Qj 3 (Qn 16) (Qn 17))),
(Qa (Qv 19) (Qf 3 true (Qn 18))),
(Qa (Qv 20) (Qd (Qn 1))),
(Qa (Qv 21) (Qd (Qn 5))),
(Qa (Qv 22) (Qj 3 (Qn 20) (Qn 21))),
(Qa (Qv 23) (Qf 3 true (Qn 22))),
(Qa (Qv 24) (MOp.eqs true [Qt, Qt, Leaf.s] (Qn 19) (Qn 23)))]
def f42_c14 : MC := .reg true f42_r14
def f42_r15 : List MO := [
(Qa (Qv 4) (Qd (Qo (Qp (Qq (Qs false))))))]
def f42_c15 : MC := .reg false f42_r15
def f42_c16 : MC := MC.ret
def f42_c17 : MC := .seq f42_c15 f42_c16
def f42_c18 : MC := MC.skip
def f42_c19 : MC := .cond (Qn 24) f42_c17 f42_c18
def f42_c20 : MC := .seq f42_c14 f42_c19
def f42_c21 : MC := .seq f42_c13 f42_c20
def f42_c22 : MC := .blk 1 f42_c21
def f42_r23 : List MO := [
(Qa (Qv 25) (Qe Qt Go.BinOp.add (Qn 13) (Qo (Qp (Qq (Qr Qu 1)))))),
(Qa (Qv 13) (Qd (Qn 25)))]
def f42_c23 : MC := .reg false f42_r23
def f42_c24 : MC := .seq f42_c22 f42_c23
def f42_c25 : MC := .seq f42_c12 f42_c24
def f42_c26 : MC := .seq f42_c9 f42_c25
def f42_c27 : MC := .loop f42_c26
def f42_c28 : MC := .blk 0 f42_c27
def f42_c29 : MC := .seq f42_c8 f42_c28
def f42_r30 : List MO := [
(Qa (Qv 4) (Qd (Qo (Qp (Qq (Qs true))))))]
def f42_c30 : MC := .reg false f42_r30
def f42_c31 : MC := MC.ret
def f42_c32 : MC := .seq f42_c30 f42_c31
def f42_c33 : MC := .seq f42_c29 f42_c32
def f42_c34 : MC := .seq f42_c7 f42_c33
def f42_c35 : MC := .seq f42_c0 f42_c34
noncomputable def f42_code : Code := (Go.Proofs.Tryd.f42.body).getD .skip
theorem f42_body : Go.Proofs.Tryd.f42.body = Qv f42_code := by kernel_rfl
theorem f42_tr : trC Go.Proofs.Tryd.prog [] f42_code = Qv f42_c35 := by kernel_rfl
theorem f42_rs : rsOf Go.Proofs.Tryd.prog Go.Proofs.Tryd.f42.results.toList = Qv [(RV.t 4)] := by kernel_rfl
theorem f42_nt : Go.Proofs.Tryd.f42.ntmps = 26 := by kernel_rfl
theorem f42_ok : callable Go.Proofs.Tryd.prog 42 = true := by kernel_rfl
theorem f42_in {gp : Heap} {args : List V} {res : V} (h : G ⟨Go.Proofs.Tryd.prog, gp, 0, [(RV.t 4)], fun r c => r = res ∧ c = [], false⟩ [.code f42_c35, .fin] ⟨args ++ List.replicate (26 - args.length) .un, []⟩) : Does Go.Proofs.Tryd.prog gp 42 args res :=
  does_intro f42_ok Go.Proofs.Tryd.func42 f42_body f42_tr f42_rs (by rw [f42_nt]; exact h)
theorem f42_tri {gp : Heap} {args : List V} {pre : List Ch} {R : V → List Ch → Prop} (h : G ⟨Go.Proofs.Tryd.prog, gp, pre.length, [(RV.t 4)], R, false⟩ [.code f42_c35, .fin] ⟨args ++ List.replicate (26 - args.length) .un, pre⟩) : Tri Go.Proofs.Tryd.prog gp 42 args pre R :=
  tri_intro Go.Proofs.Tryd.func42 f42_body f42_tr f42_rs (by rw [f42_nt]; exact h)
def f45_r0 : List MO := [
(Qa (Qv 2) (Qd (Qo (Qp (Qq (D.str (ByteArray.mk #[])))))))]
def f45_c0 : MC := .reg false f45_r0
def f45_r1 : List MO := [
(Qa (Qv 3) (Qd (Qn 0))),
(Qa (Qv 4) (Qd (Qn 0))),
(Qa (Qv 5) (Qk Leaf.s (Qn 4))),
(Qa (Qv 6) (MOp.min (Qn 5) (Qo (Qp (Qq (Qr Qu 100)))))),
(Qa (Qv 7) (MOp.slcS (Qn 3) none (Qv (Qn 6)))),
(Qa (Qv 2) (Qd (Qn 7)))]
def f45_c1 : MC := .reg false f45_r1
def f45_c2 : MC := MC.ret
def f45_c3 : MC := .seq f45_c1 f45_c2
def f45_c4 : MC := .seq f45_c0 f45_c3
noncomputable def f45_code : Code := (Go.Proofs.Tryd.f45.body).getD .skip
theorem f45_body : Go.Proofs.Tryd.f45.body = Qv f45_code := by kernel_rfl
theorem f45_tr : trC Go.Proofs.Tryd.prog [] f45_code = Qv f45_c4 := by kernel_rfl
theorem f45_rs : rsOf Go.Proofs.Tryd.prog Go.Proofs.Tryd.f45.results.toList = Qv [(RV.t 2)] := by kernel_rfl
theorem f45_nt : Go.Proofs.Tryd.f45.ntmps = 8 := by kernel_rfl
theorem f45_ok : callable Go.Proofs.Tryd.prog 45 = true := by kernel_rfl
theorem f45_in {gp : Heap} {args : List V} {res : V} (h : G ⟨Go.Proofs.Tryd.prog, gp, 0, [(RV.t 2)], fun r c => r = res ∧ c = [], false⟩ [.code f45_c4, .fin] ⟨args ++ List.replicate (8 - args.length) .un, []⟩) : Does Go.Proofs.Tryd.prog gp 45 args res :=
  does_intro f45_ok Go.Proofs.Tryd.func45 f45_body f45_tr f45_rs (by rw [f45_nt]; exact h)
theorem f45_tri {gp : Heap} {args : List V} {pre : List Ch} {R : V → List Ch → Prop} (h : G ⟨Go.Proofs.Tryd.prog, gp, pre.length, [(RV.t 2)], R, false⟩ [.code f45_c4, .fin] ⟨args ++ List.replicate (8 - args.length) .un, pre⟩) : Tri Go.Proofs.Tryd.prog gp 45 args pre R :=
  tri_intro Go.Proofs.Tryd.func45 f45_body f45_tr f45_rs (by rw [f45_nt]; exact h)
-- f46: trC none
def f47_r0 : List MO := [
(Qa (Qv 2) (MOp.ibox (Qn 0))),
(Qa (Qv 4) (Qd (Qo (Qp (Qq (Qs false))))))]
def f47_c0 : MC := .reg false f47_r0
def f47_r1 : List MO := [
(Qa (Qv 5) (Qd (Qn 1))),
(Qa (Qv 6) (Qe Qt Go.BinOp.geq (Qn 5) (Qo (Qp (Qq (Qr Qu 0)))))),
(Qa (Qv 7) (Qd (Qn 6))),
(Qb 7 true (Qv 8)),
(Qa (Qv 8) (Qd (Qn 1))),
(Qb 7 true (Qv 9)),
(Qa (Qv 9) (Qg 1 (Qn 2))),
(Qb 7 true (Qv 10)),
(Qa (Qv 10) (Qf 1 false (Qn 9))),
(Qb 7 true (Qv 11)),
(Qa (Qv 11) (Qk Qt (Qn 10))),
(Qb 7 true (Qv 12)),
(Qa (Qv 12) (Qe Qt Go.BinOp.lss (Qn 8) (Qn 11))),
(Qa (Qv 13) (Qm (Qn 7) (Qn 12) (Qo (Qp (Qq (Qs false)))))),
(Qa (Qv 4) (Qd (Qn 13)))]
def f47_c1 : MC := .reg false f47_r1
def f47_c2 : MC := MC.ret
def f47_c3 : MC := .seq f47_c1 f47_c2
def f47_c4 : MC := .seq f47_c0 f47_c3
noncomputable def f47_code : Code := (Go.Proofs.Tryd.f47.body).getD .skip
theorem f47_body : Go.Proofs.Tryd.f47.body = Qv f47_code := by kernel_rfl
theorem f47_tr : trC Go.Proofs.Tryd.prog [2] f47_code = Qv f47_c4 := by kernel_rfl
theorem f47_rs : rsOf Go.Proofs.Tryd.prog Go.Proofs.Tryd.f47.results.toList = Qv [(RV.t 4)] := by kernel_rfl
theorem f47_nt : Go.Proofs.Tryd.f47.ntmps = 14 := by kernel_rfl
theorem f47_ok : callable Go.Proofs.Tryd.prog 47 = true := by kernel_rfl
theorem f47_in {gp : Heap} {args : List V} {res : V} (h : G ⟨Go.Proofs.Tryd.prog, gp, 0, [(RV.t 4)], fun r c => r = res ∧ c = [], false⟩ [.code f47_c4, .fin] ⟨args ++ List.replicate (14 - args.length) .un, []⟩) : Does Go.Proofs.Tryd.prog gp 47 args res :=
  does_intro f47_ok Go.Proofs.Tryd.func47 f47_body f47_tr f47_rs (by rw [f47_nt]; exact h)
theorem f47_tri {gp : Heap} {args : List V} {pre : List Ch} {R : V → List Ch → Prop} (h : G ⟨Go.Proofs.Tryd.prog, gp, pre.length, [(RV.t 4)], R, false⟩ [.code f47_c4, .fin] ⟨args ++ List.replicate (14 - args.length) .un, pre⟩) : Tri Go.Proofs.Tryd.prog gp 47 args pre R :=
  tri_intro Go.Proofs.Tryd.func47 f47_body f47_tr f47_rs (by rw [f47_nt]; exact h)
def f48_r0 : List MO := [
(Qa (Qv 1) (MOp.ibox (Qn 0))),
(Qa (Qv 2) (Qd (Qo (Qp (Qq D.nilF)))))]
def f48_c0 : MC := .reg false f48_r0
def f48_r1 : List MO := [
(Qa (Qv 3) (MOp.mkF (Go.Fn.func 67) [(Qn 1)])),
(Qa (Qv 2) (Qd (Qn 3)))]
def f48_c1 : MC := .reg false f48_r1
def f48_c2 : MC := MC.ret
def f48_c3 : MC := .seq f48_c1 f48_c2
def f48_c4 : MC := .seq f48_c0 f48_c3
noncomputable def f48_code : Code := (Go.Proofs.Tryd.f48.body).getD .skip
theorem f48_body : Go.Proofs.Tryd.f48.body = Qv f48_code := by kernel_rfl
theorem f48_tr : trC Go.Proofs.Tryd.prog [1] f48_code = Qv f48_c4 := by kernel_rfl
theorem f48_rs : rsOf Go.Proofs.Tryd.prog Go.Proofs.Tryd.f48.results.toList = Qv [(RV.t 2)] := by kernel_rfl
theorem f48_nt : Go.Proofs.Tryd.f48.ntmps = 4 := by kernel_rfl
theorem f48_ok : callable Go.Proofs.Tryd.prog 48 = true := by kernel_rfl
theorem f48_in {gp : Heap} {args : List V} {res : V} (h : G ⟨Go.Proofs.Tryd.prog, gp, 0, [(RV.t 2)], fun r c => r = res ∧ c = [], false⟩ [.code f48_c4, .fin] ⟨args ++ List.replicate (4 - args.length) .un, []⟩) : Does Go.Proofs.Tryd.prog gp 48 args res :=
  does_intro f48_ok Go.Proofs.Tryd.func48 f48_body f48_tr f48_rs (by rw [f48_nt]; exact h)
theorem f48_tri {gp : Heap} {args : List V} {pre : List Ch} {R : V → List Ch → Prop} (h : G ⟨Go.Proofs.Tryd.prog, gp, pre.length, [(RV.t 2)], R, false⟩ [.code f48_c4, .fin] ⟨args ++ List.replicate (4 - args.length) .un, pre⟩) : Tri Go.Proofs.Tryd.prog gp 48 args pre R :=
  tri_intro Go.Proofs.Tryd.func48 f48_body f48_tr f48_rs (by rw [f48_nt]; exact h)
def f49_r0 : List MO := [
(Qa (Qv 1) (MOp.ibox (Qn 0))),
(Qa (Qv 2) (Qd (Qo (Qp (Qq (Qs false))))))]
def f49_c0 : MC := .reg false f49_r0
def f49_r1 : List MO := [
(Qa (Qv 4) (MOp.build [D.nilF, D.nilF, D.nilF] [(0, (1, (Qo (Qp (Qq (D.fn (Go.Fn.func 68) [])))))), (1, (1, (Qo (Qp (Qq (D.fn (Go.Fn.func 69) [])))))), (2, (1, (Qo (Qp (Qq (D.fn (Go.Fn.func 70) []))))))])),
(Qa (Qv 3) (MOp.alloc [D.nilF, D.nilF, D.nilF])),
(Qa none (Ql 3 (Qn 3) (Qn 4)))]
def f49_c1 : MC := .reg false f49_r1
def f49_r2 : List MO := [
(Qa (Qv 5) (Qg 0 (Qn 1))),
(Qa (Qv 6) (Qg 0 (Qn 5))),
(Qa (Qv 7) (Qf 1 false (Qn 6))),
(Qa (Qv 8) (Qe Qt Go.BinOp.geq (Qn 7) (Qo (Qp (Qq (Qr Qu 0)))))),
(Qa (Qv 9) (Qd (Qn 8))),
(Qb 9 true (Qv 10)),
(Qa (Qv 10) (Qg 0 (Qn 1))),
(Qb 9 true (Qv 11)),
(Qa (Qv 11) (Qg 0 (Qn 10))),
(Qb 9 true (Qv 12)),
(Qa (Qv 12) (Qf 1 false (Qn 11))),
(Qb 9 true (Qv 13)),
(Qa (Qv 13) (Qe Qt Go.BinOp.lss (Qn 12) (Qo (Qp (Qq (Qr Qu 3)))))),
(Qa (Qv 14) (Qm (Qn 9) (Qn 13) (Qo (Qp (Qq (Qs false)))))),
(Qa (Qv 15) (Qd (Qn 14))),
(Qb 15 true (Qv 16)),
(Qa (Qv 16) (Qg 0 (Qn 1))),
(Qb 15 true (Qv 17)),
(Qa (Qv 17) (Qg 0 (Qn 16))),
(Qb 15 true (Qv 18)),
(Qa (Qv 18) (Qf 1 false (Qn 17))),
(Qb 15 true (Qv 19)),
(Qa (Qv 19) (MOp.iadA 3 1 (Qn 3) (Qn 18))),
(Qb 15 true (Qv 20)),
(Qa (Qv 20) (Qf 1 false (Qn 19))),
(Qb 15 true (Qv 21)),
(Qa (Qv 21) (Qf 7 true (Qn 1))),
(Qb 15 true (Qv 22)),
(Qc (Qv 22) (MOp.callv (Qn 20) [(Qn 21)])),
(Qa (Qv 23) (Qm (Qn 15) (Qn 22) (Qo (Qp (Qq (Qs false)))))),
(Qa (Qv 2) (Qd (Qn 23)))]
def f49_c2 : MC := .reg true f49_r2
def f49_c3 : MC := MC.ret
def f49_c4 : MC := .seq f49_c2 f49_c3
def f49_c5 : MC := .seq f49_c1 f49_c4
def f49_c6 : MC := .seq f49_c0 f49_c5
noncomputable def f49_code : Code := (Go.Proofs.Tryd.f49.body).getD .skip
theorem f49_body : Go.Proofs.Tryd.f49.body = Qv f49_code := by kernel_rfl
theorem f49_tr : trC Go.Proofs.Tryd.prog [1] f49_code = Qv f49_c6 := by kernel_rfl
theorem f49_rs : rsOf Go.Proofs.Tryd.prog Go.Proofs.Tryd.f49.results.toList = Qv [(RV.t 2)] := by kernel_rfl
theorem f49_nt : Go.Proofs.Tryd.f49.ntmps = 24 := by kernel_rfl
theorem f49_ok : callable Go.Proofs.Tryd.prog 49 = true := by kernel_rfl
theorem f49_in {gp : Heap} {args : List V} {res : V} (h : G ⟨Go.Proofs.Tryd.prog, gp, 0, [(RV.t 2)], fun r c => r = res ∧ c = [], false⟩ [.code f49_c6, .fin] ⟨args ++ List.replicate (24 - args.length) .un, []⟩) : Does Go.Proofs.Tryd.prog gp 49 args res :=
  does_intro f49_ok Go.Proofs.Tryd.func49 f49_body f49_tr f49_rs (by rw [f49_nt]; exact h)
theorem f49_tri {gp : Heap} {args : List V} {pre : List Ch} {R : V → List Ch → Prop} (h : G ⟨Go.Proofs.Tryd.prog, gp, pre.length, [(RV.t 2)], R, false⟩ [.code f49_c6, .fin] ⟨args ++ List.replicate (24 - args.length) .un, pre⟩) : Tri Go.Proofs.Tryd.prog gp 49 args pre R :=
  tri_intro Go.Proofs.Tryd.func49 f49_body f49_tr f49_rs (by rw [f49_nt]; exact h)
def f50_r0 : List MO := [
(Qa (Qv 1) (MOp.ibox (Qn 0))),
(Qa (Qv 2) (Qd (Qo (Qp (Qq (Qs false))))))]
def f50_c0 : MC := .reg false f50_r0
def f50_r1 : List MO := [
(Qa (Qv 3) (Qg 0 (Qn 1))),
(Qa (Qv 4) (Qg 4 (Qn 3))),
(Qa (Qv 5) (Qf 1 false (Qn 4))),
(Qa (Qv 6) (Qk Qt (Qn 5))),
(Qa (Qv 7) (Qg 0 (Qn 1))),
(Qa (Qv 8) (Qg 5 (Qn 7))),
(Qa (Qv 9) (Qf 1 false (Qn 8))),
(Qa (Qv 10) (Qk Qt (Qn 9))),
(Qa (Qv 11) (Qe Qt Go.BinOp.eql (Qn 6) (Qn 10))),
(Qa (Qv 2) (Qd (Qn 11)))]
def f50_c1 : MC := .reg false f50_r1
def f50_c2 : MC := MC.ret
def f50_c3 : MC := .seq f50_c1 f50_c2
def f50_c4 : MC := .seq f50_c0 f50_c3
noncomputable def f50_code : Code := (Go.Proofs.Tryd.f50.body).getD .skip
theorem f50_body : Go.Proofs.Tryd.f50.body = Qv f50_code := by kernel_rfl
theorem f50_tr : trC Go.Proofs.Tryd.prog [1] f50_code = Qv f50_c4 := by kernel_rfl
theorem f50_rs : rsOf Go.Proofs.Tryd.prog Go.Proofs.Tryd.f50.results.toList = Qv [(RV.t 2)] := by kernel_rfl
theorem f50_nt : Go.Proofs.Tryd.f50.ntmps = 12 := by kernel_rfl
theorem f50_ok : callable Go.Proofs.Tryd.prog 50 = true := by kernel_rfl
theorem f50_in {gp : Heap} {args : List V} {res : V} (h : G ⟨Go.Proofs.Tryd.prog, gp, 0, [(RV.t 2)], fun r c => r = res ∧ c = [], false⟩ [.code f50_c4, .fin] ⟨args ++ List.replicate (12 - args.length) .un, []⟩) : Does Go.Proofs.Tryd.prog gp 50 args res :=
  does_intro f50_ok Go.Proofs.Tryd.func50 f50_body f50_tr f50_rs (by rw [f50_nt]; exact h)
theorem f50_tri {gp : Heap} {args : List V} {pre : List Ch} {R : V → List Ch → Prop} (h : G ⟨Go.Proofs.Tryd.prog, gp, pre.length, [(RV.t 2)], R, false⟩ [.code f50_c4, .fin] ⟨args ++ List.replicate (12 - args.length) .un, pre⟩) : Tri Go.Proofs.Tryd.prog gp 50 args pre R :=
  tri_intro Go.Proofs.Tryd.func50 f50_body f50_tr f50_rs (by rw [f50_nt]; exact h)
def f51_r0 : List MO := [
(Qa (Qv 4) (Qd (Qn 0))),
(Qa (Qv 5) (Qd (Qn 0))),
(Qa (Qv 6) (Qk Qt (Qn 5))),
(Qa (Qv 7) (Qd (Qn 1))),
(Qa (Qv 8) (Qh 71 [(Qn 4), (Qn 6), (Qn 7)]))]
def f51_c0 : MC := .reg false f51_r0
noncomputable def f51_code : Code := (Go.Proofs.Tryd.f51.body).getD .skip
theorem f51_body : Go.Proofs.Tryd.f51.body = Qv f51_code := by kernel_rfl
theorem f51_tr : trC Go.Proofs.Tryd.prog [] f51_code = Qv f51_c0 := by kernel_rfl
theorem f51_rs : rsOf Go.Proofs.Tryd.prog Go.Proofs.Tryd.f51.results.toList = Qv [] := by kernel_rfl
theorem f51_nt : Go.Proofs.Tryd.f51.ntmps = 9 := by kernel_rfl
theorem f51_ok : callable Go.Proofs.Tryd.prog 51 = true := by kernel_rfl
theorem f51_in {gp : Heap} {args : List V} {res : V} (h : G ⟨Go.Proofs.Tryd.prog, gp, 0, [], fun r c => r = res ∧ c = [], false⟩ [.code f51_c0, .fin] ⟨args ++ List.replicate (9 - args.length) .un, []⟩) : Does Go.Proofs.Tryd.prog gp 51 args res :=
  does_intro f51_ok Go.Proofs.Tryd.func51 f51_body f51_tr f51_rs (by rw [f51_nt]; exact h)
theorem f51_tri {gp : Heap} {args : List V} {pre : List Ch} {R : V → List Ch → Prop} (h : G ⟨Go.Proofs.Tryd.prog, gp, pre.length, [], R, false⟩ [.code f51_c0, .fin] ⟨args ++ List.replicate (9 - args.length) .un, pre⟩) : Tri Go.Proofs.Tryd.prog gp 51 args pre R :=
  tri_intro Go.Proofs.Tryd.func51 f51_body f51_tr f51_rs (by rw [f51_nt]; exact h)
def f52_r0 : List MO := [
(Qa (Qv 2) (MOp.ibox (Qn 0))),
(Qa (Qv 3) (MOp.ibox (Qn 1))),
(Qa (Qv 4) (Qd (Qo (Qp (Qq (Qr Qu 0))))))]
def f52_c0 : MC := .reg false f52_r0
def f52_r1 : List MO := [
(Qa (Qv 5) (Qg 0 (Qn 2))),
(Qa (Qv 6) (Qf 3 true (Qn 5))),
(Qa (Qv 7) (Qg 0 (Qn 3))),
(Qa (Qv 8) (Qf 3 true (Qn 7))),
(Qa (Qv 9) (Qh 14 [(Qn 6), (Qn 8)])),
(Qa (Qv 4) (Qd (Qn 9)))]
def f52_c1 : MC := .reg false f52_r1
def f52_c2 : MC := MC.ret
def f52_c3 : MC := .seq f52_c1 f52_c2
def f52_c4 : MC := .seq f52_c0 f52_c3
noncomputable def f52_code : Code := (Go.Proofs.Tryd.f52.body).getD .skip
theorem f52_body : Go.Proofs.Tryd.f52.body = Qv f52_code := by kernel_rfl
theorem f52_tr : trC Go.Proofs.Tryd.prog [2, 3] f52_code = Qv f52_c4 := by kernel_rfl
theorem f52_rs : rsOf Go.Proofs.Tryd.prog Go.Proofs.Tryd.f52.results.toList = Qv [(RV.t 4)] := by kernel_rfl
theorem f52_nt : Go.Proofs.Tryd.f52.ntmps = 10 := by kernel_rfl
theorem f52_ok : callable Go.Proofs.Tryd.prog 52 = true := by kernel_rfl
theorem f52_in {gp : Heap} {args : List V} {res : V} (h : G ⟨Go.Proofs.Tryd.prog, gp, 0, [(RV.t 4)], fun r c => r = res ∧ c = [], false⟩ [.code f52_c4, .fin] ⟨args ++ List.replicate (10 - args.length) .un, []⟩) : Does Go.Proofs.Tryd.prog gp 52 args res :=
  does_intro f52_ok Go.Proofs.Tryd.func52 f52_body f52_tr f52_rs (by rw [f52_nt]; exact h)
theorem f52_tri {gp : Heap} {args : List V} {pre : List Ch} {R : V → List Ch → Prop} (h : G ⟨Go.Proofs.Tryd.prog, gp, pre.length, [(RV.t 4)], R, false⟩ [.code f52_c4, .fin] ⟨args ++ List.replicate (10 - args.length) .un, pre⟩) : Tri Go.Proofs.Tryd.prog gp 52 args pre R :=
  tri_intro Go.Proofs.Tryd.func52 f52_body f52_tr f52_rs (by rw [f52_nt]; exact h)
def f53_r0 : List MO := [
(Qa (Qv 2) (Qd (Qo (Qp (Qq (Qs false))))))]
def f53_c0 : MC := .reg false f53_r0
def f53_r1 : List MO := [
(Qa (Qv 3) (Qd (Qn 0))),
(Qa (Qv 4) (Qd (Qn 0))),
(Qa (Qv 5) (Qe Qt Go.BinOp.neq (Qn 3) (Qn 4))),
(Qa (Qv 2) (Qd (Qn 5)))]
def f53_c1 : MC := .reg false f53_r1
def f53_c2 : MC := MC.ret
def f53_c3 : MC := .seq f53_c1 f53_c2
def f53_c4 : MC := .seq f53_c0 f53_c3
noncomputable def f53_code : Code := (Go.Proofs.Tryd.f53.body).getD .skip
theorem f53_body : Go.Proofs.Tryd.f53.body = Qv f53_code := by kernel_rfl
theorem f53_tr : trC Go.Proofs.Tryd.prog [] f53_code = Qv f53_c4 := by kernel_rfl
theorem f53_rs : rsOf Go.Proofs.Tryd.prog Go.Proofs.Tryd.f53.results.toList = Qv [(RV.t 2)] := by kernel_rfl
theorem f53_nt : Go.Proofs.Tryd.f53.ntmps = 6 := by kernel_rfl
theorem f53_ok : callable Go.Proofs.Tryd.prog 53 = true := by kernel_rfl
theorem f53_in {gp : Heap} {args : List V} {res : V} (h : G ⟨Go.Proofs.Tryd.prog, gp, 0, [(RV.t 2)], fun r c => r = res ∧ c = [], false⟩ [.code f53_c4, .fin] ⟨args ++ List.replicate (6 - args.length) .un, []⟩) : Does Go.Proofs.Tryd.prog gp 53 args res :=
  does_intro f53_ok Go.Proofs.Tryd.func53 f53_body f53_tr f53_rs (by rw [f53_nt]; exact h)
theorem f53_tri {gp : Heap} {args : List V} {pre : List Ch} {R : V → List Ch → Prop} (h : G ⟨Go.Proofs.Tryd.prog, gp, pre.length, [(RV.t 2)], R, false⟩ [.code f53_c4, .fin] ⟨args ++ List.replicate (6 - args.length) .un, pre⟩) : Tri Go.Proofs.Tryd.prog gp 53 args pre R :=
  tri_intro Go.Proofs.Tryd.func53 f53_body f53_tr f53_rs (by rw [f53_nt]; exact h)
def f54_r0 : List MO := [
(Qa (Qv 2) (Qd (Qo (Qp (Qq (Qs false))))))]
def f54_c0 : MC := .reg false f54_r0
def f54_r1 : List MO := [
(Qa (Qv 3) (Qd (Qn 0))),
(Qa (Qv 4) (Qd (Qn 0))),
(Qa (Qv 5) (Qe Leaf.s Go.BinOp.neq (Qn 3) (Qn 4))),
(Qa (Qv 2) (Qd (Qn 5)))]
def f54_c1 : MC := .reg false f54_r1
def f54_c2 : MC := MC.ret
def f54_c3 : MC := .seq f54_c1 f54_c2
def f54_c4 : MC := .seq f54_c0 f54_c3
noncomputable def f54_code : Code := (Go.Proofs.Tryd.f54.body).getD .skip
theorem f54_body : Go.Proofs.Tryd.f54.body = Qv f54_code := by kernel_rfl
theorem f54_tr : trC Go.Proofs.Tryd.prog [] f54_code = Qv f54_c4 := by kernel_rfl
theorem f54_rs : rsOf Go.Proofs.Tryd.prog Go.Proofs.Tryd.f54.results.toList = Qv [(RV.t 2)] := by kernel_rfl
theorem f54_nt : Go.Proofs.Tryd.f54.ntmps = 6 := by kernel_rfl
theorem f54_ok : callable Go.Proofs.Tryd.prog 54 = true := by kernel_rfl
theorem f54_in {gp : Heap} {args : List V} {res : V} (h : G ⟨Go.Proofs.Tryd.prog, gp, 0, [(RV.t 2)], fun r c => r = res ∧ c = [], false⟩ [.code f54_c4, .fin] ⟨args ++ List.replicate (6 - args.length) .un, []⟩) : Does Go.Proofs.Tryd.prog gp 54 args res :=
  does_intro f54_ok Go.Proofs.Tryd.func54 f54_body f54_tr f54_rs (by rw [f54_nt]; exact h)
theorem f54_tri {gp : Heap} {args : List V} {pre : List Ch} {R : V → List Ch → Prop} (h : G ⟨Go.Proofs.Tryd.prog, gp, pre.length, [(RV.t 2)], R, false⟩ [.code f54_c4, .fin] ⟨args ++ List.replicate (6 - args.length) .un, pre⟩) : Tri Go.Proofs.Tryd.prog gp 54 args pre R :=
  tri_intro Go.Proofs.Tryd.func54 f54_body f54_tr f54_rs (by rw [f54_nt]; exact h)
def f67_c0 : MC := MC.skip
def f67_r1 : List MO := [
(Qa (Qv 5) (Qg 1 (Qn 1))),
(Qa (Qv 6) (Qf 1 false (Qn 5))),
(Qa (Qv 7) (Qk Qt (Qn 6))),
(Qa (Qv 8) (Qd (Qo (Qp (Qq (Qr Qu 0))))))]
def f67_c1 : MC := .reg false f67_r1
def f67_r2 : List MO := [
(Qa (Qv 9) (Qe Qt Go.BinOp.lss (Qn 8) (Qn 7)))]
def f67_c2 : MC := .reg false f67_r2
def f67_c3 : MC := MC.skip
def f67_c4 : MC := (MC.exit 0)
def f67_c5 : MC := .cond (Qn 9) f67_c3 f67_c4
def f67_r6 : List MO := [
(Qa (Qv 10) (Qd (Qn 8))),
(Qa (Qv 11) (Qj 6 (Qn 6) (Qn 8))),
(Qa (Qv 12) (Qf 6 true (Qn 11))),
(Qa (Qv 4) (MOp.alloc [(Qr Qu 0), (Qr Qu 0), (Qr Qu 0), (D.str (ByteArray.mk #[])), (D.sl []), (D.sl [])])),
(Qa (Qv 3) (Qd (Qn 10))),
(Qa none (Ql 6 (Qn 4) (Qn 12)))]
def f67_c6 : MC := .reg false f67_r6
def f67_r7 : List MO := [
(Qa (Qv 13) (Qd (Qn 0))),
(Qa (Qv 14) (Qd (Qn 3))),
(Qa (Qv 15) (Qf 6 true (Qn 4))),
(Qa (Qv 16) (Qg 1 (Qn 1))),
(Qa (Qv 17) (Qf 1 false (Qn 16))),
(Qa (Qv 18) (Qk Qt (Qn 17))),
(Qa (Qv 19) (MOp.build [(Qr Qu 0), (Qr Qu 0), (Qr Qu 0), (D.str (ByteArray.mk #[])), (D.sl []), (D.sl []), (Qr Qu 0)] [(0, (6, (Qn 15))), (6, (1, (Qn 18)))])),
(Qa (Qv 20) (MOp.callv (Qn 13) [(Qn 14), (Qn 19)])),
(Qa (Qv 21) (MOp.not (Qn 20)))]
def f67_c7 : MC := .reg false f67_r7
def f67_c8 : MC := (MC.exit 0)
def f67_c9 : MC := MC.skip
def f67_c10 : MC := .cond (Qn 21) f67_c8 f67_c9
def f67_c11 : MC := .seq f67_c7 f67_c10
def f67_c12 : MC := .seq f67_c6 f67_c11
def f67_c13 : MC := .blk 1 f67_c12
def f67_r14 : List MO := [
(Qa (Qv 22) (Qe Qt Go.BinOp.add (Qn 8) (Qo (Qp (Qq (Qr Qu 1)))))),
(Qa (Qv 8) (Qd (Qn 22)))]
def f67_c14 : MC := .reg false f67_r14
def f67_c15 : MC := .seq f67_c13 f67_c14
def f67_c16 : MC := .seq f67_c5 f67_c15
def f67_c17 : MC := .seq f67_c2 f67_c16
def f67_c18 : MC := .loop f67_c17
def f67_c19 : MC := .blk 0 f67_c18
def f67_c20 : MC := .seq f67_c1 f67_c19
def f67_c21 : MC := .seq f67_c0 f67_c20
def f67_c22 : MC := .scope f67_c21
noncomputable def f67_code : Code := (Go.Proofs.Tryd.f67.body).getD .skip
theorem f67_body : Go.Proofs.Tryd.f67.body = Qv f67_code := by kernel_rfl
theorem f67_tr : trC Go.Proofs.Tryd.prog [] f67_code = Qv f67_c22 := by kernel_rfl
theorem f67_rs : rsOf Go.Proofs.Tryd.prog Go.Proofs.Tryd.f67.results.toList = Qv [] := by kernel_rfl
theorem f67_nt : Go.Proofs.Tryd.f67.ntmps = 23 := by kernel_rfl
theorem f67_ok : callable Go.Proofs.Tryd.prog 67 = true := by kernel_rfl
theorem f67_in {gp : Heap} {args : List V} {res : V} (h : G ⟨Go.Proofs.Tryd.prog, gp, 0, [], fun r c => r = res ∧ c = [], false⟩ [.code f67_c22, .fin] ⟨args ++ List.replicate (23 - args.length) .un, []⟩) : Does Go.Proofs.Tryd.prog gp 67 args res :=
  does_intro f67_ok Go.Proofs.Tryd.func67 f67_body f67_tr f67_rs (by rw [f67_nt]; exact h)
theorem f67_tri {gp : Heap} {args : List V} {pre : List Ch} {R : V → List Ch → Prop} (h : G ⟨Go.Proofs.Tryd.prog, gp, pre.length, [], R, false⟩ [.code f67_c22, .fin] ⟨args ++ List.replicate (23 - args.length) .un, pre⟩) : Tri Go.Proofs.Tryd.prog gp 67 args pre R :=
  tri_intro Go.Proofs.Tryd.func67 f67_body f67_tr f67_rs (by rw [f67_nt]; exact h)
def f68_r0 : List MO := [
(Qa (Qv 1) (MOp.ibox (Qn 0))),
(Qa (Qv 2) (Qd (Qo (Qp (Qq (Qs false))))))]
def f68_c0 : MC := .reg false f68_r0
def f68_r1 : List MO := [
(Qa (Qv 3) (Qg 0 (Qn 1))),
(Qa (Qv 4) (Qg 1 (Qn 3))),
(Qa (Qv 5) (Qf 3 true (Qn 4))),
(Qa (Qv 6) (Qh 81 [(Qn 5)])),
(Qa (Qv 7) (Qg 0 (Qn 1))),
(Qa (Qv 8) (Qg 4 (Qn 7))),
(Qa (Qv 9) (Qf 1 false (Qn 8))),
(Qa (Qv 10) (Qk Qt (Qn 9))),
(Qa (Qv 11) (Qe Qt Go.BinOp.eql (Qn 10) (Qo (Qp (Qq (Qr Qu 0)))))),
(Qa (Qv 12) (Qg 0 (Qn 1))),
(Qa (Qv 13) (Qg 5 (Qn 12))),
(Qa (Qv 14) (Qf 1 false (Qn 13))),
(Qa (Qv 15) (Qk Qt (Qn 14))),
(Qa (Qv 16) (Qe Qt Go.BinOp.eql (Qn 15) (Qo (Qp (Qq (Qr Qu 0)))))),
(Qa (Qv 17) (MOp.bslice 1 [(Qs false)] 3 [(0, (Qn 6)), (1, (Qn 11)), (2, (Qn 16))])),
(Qc (Qv 18) (Qh 80 [(Qn 17)])),
(Qa (Qv 2) (Qd (Qn 18)))]
def f68_c1 : MC := .reg true f68_r1
def f68_c2 : MC := MC.ret
def f68_c3 : MC := .seq f68_c1 f68_c2
def f68_c4 : MC := .seq f68_c0 f68_c3
noncomputable def f68_code : Code := (Go.Proofs.Tryd.f68.body).getD .skip
theorem f68_body : Go.Proofs.Tryd.f68.body = Qv f68_code := by kernel_rfl
theorem f68_tr : trC Go.Proofs.Tryd.prog [1] f68_code = Qv f68_c4 := by kernel_rfl
theorem f68_rs : rsOf Go.Proofs.Tryd.prog Go.Proofs.Tryd.f68.results.toList = Qv [(RV.t 2)] := by kernel_rfl
theorem f68_nt : Go.Proofs.Tryd.f68.ntmps = 19 := by kernel_rfl
theorem f68_ok : callable Go.Proofs.Tryd.prog 68 = true := by kernel_rfl
theorem f68_in {gp : Heap} {args : List V} {res : V} (h : G ⟨Go.Proofs.Tryd.prog, gp, 0, [(RV.t 2)], fun r c => r = res ∧ c = [], false⟩ [.code f68_c4, .fin] ⟨args ++ List.replicate (19 - args.length) .un, []⟩) : Does Go.Proofs.Tryd.prog gp 68 args res :=
  does_intro f68_ok Go.Proofs.Tryd.func68 f68_body f68_tr f68_rs (by rw [f68_nt]; exact h)
theorem f68_tri {gp : Heap} {args : List V} {pre : List Ch} {R : V → List Ch → Prop} (h : G ⟨Go.Proofs.Tryd.prog, gp, pre.length, [(RV.t 2)], R, false⟩ [.code f68_c4, .fin] ⟨args ++ List.replicate (19 - args.length) .un, pre⟩) : Tri Go.Proofs.Tryd.prog gp 68 args pre R :=
  tri_intro Go.Proofs.Tryd.func68 f68_body f68_tr f68_rs (by rw [f68_nt]; exact h)
def f69_r0 : List MO := [
(Qa (Qv 1) (MOp.ibox (Qn 0))),
(Qa (Qv 2) (Qd (Qo (Qp (Qq (Qs false))))))]
def f69_c0 : MC := .reg false f69_r0
def f69_r1 : List MO := [
(Qa (Qv 3) (Qg 0 (Qn 1))),
(Qa (Qv 4) (Qg 1 (Qn 3))),
(Qa (Qv 5) (Qf 3 true (Qn 4))),
(Qa (Qv 6) (MOp.build [(Qr Qu 0), (Qr Qu 0), (D.str (ByteArray.mk #[]))] [])),
(Qa (Qv 7) (MOp.eqs false [Qt, Qt, Leaf.s] (Qn 5) (Qn 6))),
(Qa (Qv 8) (Qg 0 (Qn 1))),
(Qa (Qv 9) (Qg 4 (Qn 8))),
(Qa (Qv 10) (Qf 1 false (Qn 9))),
(Qa (Qv 11) (Qk Qt (Qn 10))),
(Qa (Qv 12) (Qe Qt Go.BinOp.eql (Qn 11) (Qo (Qp (Qq (Qr Qu 0)))))),
(Qa (Qv 13) (Qf 7 true (Qn 1))),
(Qa (Qv 14) (Qh 82 [(Qn 13)])),
(Qa (Qv 15) (MOp.bslice 1 [(Qs false)] 3 [(0, (Qn 7)), (1, (Qn 12)), (2, (Qn 14))])),
(Qc (Qv 16) (Qh 80 [(Qn 15)])),
(Qa (Qv 2) (Qd (Qn 16)))]
def f69_c1 : MC := .reg true f69_r1
def f69_c2 : MC := MC.ret
def f69_c3 : MC := .seq f69_c1 f69_c2
def f69_c4 : MC := .seq f69_c0 f69_c3
noncomputable def f69_code : Code := (Go.Proofs.Tryd.f69.body).getD .skip
theorem f69_body : Go.Proofs.Tryd.f69.body = Qv f69_code := by kernel_rfl
theorem f69_tr : trC Go.Proofs.Tryd.prog [1] f69_code = Qv f69_c4 := by kernel_rfl
theorem f69_rs : rsOf Go.Proofs.Tryd.prog Go.Proofs.Tryd.f69.results.toList = Qv [(RV.t 2)] := by kernel_rfl
theorem f69_nt : Go.Proofs.Tryd.f69.ntmps = 17 := by kernel_rfl
theorem f69_ok : callable Go.Proofs.Tryd.prog 69 = true := by kernel_rfl
theorem f69_in {gp : Heap} {args : List V} {res : V} (h : G ⟨Go.Proofs.Tryd.prog, gp, 0, [(RV.t 2)], fun r c => r = res ∧ c = [], false⟩ [.code f69_c4, .fin] ⟨args ++ List.replicate (17 - args.length) .un, []⟩) : Does Go.Proofs.Tryd.prog gp 69 args res :=
  does_intro f69_ok Go.Proofs.Tryd.func69 f69_body f69_tr f69_rs (by rw [f69_nt]; exact h)
theorem f69_tri {gp : Heap} {args : List V} {pre : List Ch} {R : V → List Ch → Prop} (h : G ⟨Go.Proofs.Tryd.prog, gp, pre.length, [(RV.t 2)], R, false⟩ [.code f69_c4, .fin] ⟨args ++ List.replicate (17 - args.length) .un, pre⟩) : Tri Go.Proofs.Tryd.prog gp 69 args pre R :=
  tri_intro Go.Proofs.Tryd.func69 f69_body f69_tr f69_rs (by rw [f69_nt]; exact h)
def f70_r0 : List MO := [
(Qa (Qv 1) (MOp.ibox (Qn 0))),
(Qa (Qv 2) (Qd (Qo (Qp (Qq (Qs false))))))]
def f70_c0 : MC := .reg false f70_r0
def f70_r1 : List MO := [
(Qa (Qv 3) (Qg 0 (Qn 1))),
(Qa (Qv 4) (Qg 1 (Qn 3))),
(Qa (Qv 5) (Qf 3 true (Qn 4))),
(Qa (Qv 6) (MOp.build [(Qr Qu 0), (Qr Qu 0), (D.str (ByteArray.mk #[]))] [])),
(Qa (Qv 7) (MOp.eqs false [Qt, Qt, Leaf.s] (Qn 5) (Qn 6))),
(Qa (Qv 8) (Qf 7 true (Qn 1))),
(Qa (Qv 9) (Qh 50 [(Qn 8)])),
(Qa (Qv 10) (Qf 7 true (Qn 1))),
(Qa (Qv 11) (Qh 83 [(Qn 10)])),
(Qa (Qv 12) (Qf 7 true (Qn 1))),
(Qa (Qv 13) (Qh 82 [(Qn 12)])),
(Qa (Qv 14) (MOp.bslice 1 [(Qs false)] 4 [(0, (Qn 7)), (1, (Qn 9)), (2, (Qn 11)), (3, (Qn 13))])),
(Qc (Qv 15) (Qh 80 [(Qn 14)])),
(Qa (Qv 2) (Qd (Qn 15)))]
def f70_c1 : MC := .reg true f70_r1
def f70_c2 : MC := MC.ret
def f70_c3 : MC := .seq f70_c1 f70_c2
def f70_c4 : MC := .seq f70_c0 f70_c3
noncomputable def f70_code : Code := (Go.Proofs.Tryd.f70.body).getD .skip
theorem f70_body : Go.Proofs.Tryd.f70.body = Qv f70_code := by kernel_rfl
theorem f70_tr : trC Go.Proofs.Tryd.prog [1] f70_code = Qv f70_c4 := by kernel_rfl
theorem f70_rs : rsOf Go.Proofs.Tryd.prog Go.Proofs.Tryd.f70.results.toList = Qv [(RV.t 2)] := by kernel_rfl
theorem f70_nt : Go.Proofs.Tryd.f70.ntmps = 16 := by kernel_rfl
theorem f70_ok : callable Go.Proofs.Tryd.prog 70 = true := by kernel_rfl
theorem f70_in {gp : Heap} {args : List V} {res : V} (h : G ⟨Go.Proofs.Tryd.prog, gp, 0, [(RV.t 2)], fun r c => r = res ∧ c = [], false⟩ [.code f70_c4, .fin] ⟨args ++ List.replicate (16 - args.length) .un, []⟩) : Does Go.Proofs.Tryd.prog gp 70 args res :=
  does_intro f70_ok Go.Proofs.Tryd.func70 f70_body f70_tr f70_rs (by rw [f70_nt]; exact h)
theorem f70_tri {gp : Heap} {args : List V} {pre : List Ch} {R : V → List Ch → Prop} (h : G ⟨Go.Proofs.Tryd.prog, gp, pre.length, [(RV.t 2)], R, false⟩ [.code f70_c4, .fin] ⟨args ++ List.replicate (16 - args.length) .un, pre⟩) : Tri Go.Proofs.Tryd.prog gp 70 args pre R :=
  tri_intro Go.Proofs.Tryd.func70 f70_body f70_tr f70_rs (by rw [f70_nt]; exact h)
def f71_r0 : List MO := [
(Qa (Qv 6) (Qd (Qo (Qp (Qq (Qr Qu 20))))))]
def f71_c0 : MC := .reg false f71_r0
def f71_r1 : List MO := [
(Qa (Qv 10) (Qd (Qn 6))),
(Qa (Qv 7) (Qd (Qo (Qp (Qq (Qr Qu 0)))))),
(Qa (Qv 8) (Qd (Qn 10)))]
def f71_c1 : MC := .reg false f71_r1
def f71_r2 : List MO := [
(Qa (Qv 11) (Qd (Qn 8))),
(Qa (Qv 12) (Qd (Qn 1))),
(Qa (Qv 13) (Qe Qt Go.BinOp.leq (Qn 11) (Qn 12)))]
def f71_c2 : MC := .reg false f71_r2
def f71_c3 : MC := MC.skip
def f71_c4 : MC := (MC.exit 0)
def f71_c5 : MC := .cond (Qn 13) f71_c3 f71_c4
def f71_c6 : MC := .seq f71_c2 f71_c5
def f71_r7 : List MO := [
(Qa (Qv 14) (Qd (Qn 0))),
(Qa (Qv 15) (Qd (Qn 7))),
(Qa (Qv 16) (Qd (Qn 8))),
(Qa (Qv 17) (Qd (Qn 2))),
(Qa (Qv 18) (Qh 84 [(Qn 14), (Qn 15), (Qn 16), (Qn 17)]))]
def f71_c7 : MC := .reg false f71_r7
def f71_r8 : List MO := [
(Qa (Qv 19) (Qd (Qn 8))),
(Qa (Qv 7) (Qd (Qn 19)))]
def f71_c8 : MC := .reg false f71_r8
def f71_r9 : List MO := [
(Qa (Qv 20) (Qd (Qn 8))),
(Qa (Qv 21) (Qd (Qn 6))),
(Qa (Qv 22) (Qe Qt Go.BinOp.add (Qn 20) (Qn 21))),
(Qa (Qv 8) (Qd (Qn 22)))]
def f71_c9 : MC := .reg false f71_r9
def f71_c10 : MC := .seq f71_c8 f71_c9
def f71_c11 : MC := .seq f71_c7 f71_c10
def f71_c12 : MC := .blk 1 f71_c11
def f71_c13 : MC := .seq f71_c6 f71_c12
def f71_c14 : MC := .loop f71_c13
def f71_c15 : MC := .blk 0 f71_c14
def f71_r16 : List MO := [
(Qa (Qv 23) (Qd (Qn 0))),
(Qa (Qv 24) (Qd (Qn 7))),
(Qa (Qv 25) (Qd (Qn 1))),
(Qa (Qv 26) (Qd (Qn 2))),
(Qa (Qv 27) (Qh 84 [(Qn 23), (Qn 24), (Qn 25), (Qn 26)]))]
def f71_c16 : MC := .reg false f71_r16
def f71_r17 : List MO := [
(Qa (Qv 28) (Qd (Qn 6))),
(Qa (Qv 29) (Qd (Qn 1))),
(Qa (Qv 30) (Qe Qt Go.BinOp.lss (Qn 28) (Qn 29)))]
def f71_c17 : MC := .reg false f71_r17
def f71_c18 : MC := MC.skip
def f71_c19 : MC := (MC.exit 2)
def f71_c20 : MC := .cond (Qn 30) f71_c18 f71_c19
def f71_c21 : MC := .seq f71_c17 f71_c20
def f71_r22 : List MO := [
(Qa (Qv 31) (Qd (Qn 6))),
(Qa (Qv 32) (Qe Qt Go.BinOp.mul (Qo (Qp (Qq (Qr Qu 2)))) (Qn 31))),
(Qa (Qv 7) (Qd (Qo (Qp (Qq (Qr Qu 0)))))),
(Qa (Qv 8) (Qd (Qn 32)))]
def f71_c22 : MC := .reg false f71_r22
def f71_r23 : List MO := [
(Qa (Qv 33) (Qd (Qn 8))),
(Qa (Qv 34) (Qd (Qn 1))),
(Qa (Qv 35) (Qe Qt Go.BinOp.leq (Qn 33) (Qn 34)))]
def f71_c23 : MC := .reg false f71_r23
def f71_c24 : MC := MC.skip
def f71_c25 : MC := (MC.exit 4)
def f71_c26 : MC := .cond (Qn 35) f71_c24 f71_c25
def f71_c27 : MC := .seq f71_c23 f71_c26
def f71_r28 : List MO := [
(Qa (Qv 36) (Qd (Qn 0))),
(Qa (Qv 37) (Qd (Qn 7))),
(Qa (Qv 38) (Qd (Qn 7))),
(Qa (Qv 39) (Qd (Qn 6))),
(Qa (Qv 40) (Qe Qt Go.BinOp.add (Qn 38) (Qn 39))),
(Qa (Qv 41) (Qd (Qn 8))),
(Qa (Qv 42) (Qd (Qn 2))),
(Qa (Qv 43) (Qh 85 [(Qn 36), (Qn 37), (Qn 40), (Qn 41), (Qn 42)]))]
def f71_c28 : MC := .reg false f71_r28
def f71_r29 : List MO := [
(Qa (Qv 44) (Qd (Qn 8))),
(Qa (Qv 7) (Qd (Qn 44)))]
def f71_c29 : MC := .reg false f71_r29
def f71_r30 : List MO := [
(Qa (Qv 45) (Qd (Qn 8))),
(Qa (Qv 46) (Qd (Qn 6))),
(Qa (Qv 47) (Qe Qt Go.BinOp.mul (Qo (Qp (Qq (Qr Qu 2)))) (Qn 46))),
(Qa (Qv 48) (Qe Qt Go.BinOp.add (Qn 45) (Qn 47))),
(Qa (Qv 8) (Qd (Qn 48)))]
def f71_c30 : MC := .reg false f71_r30
def f71_c31 : MC := .seq f71_c29 f71_c30
def f71_c32 : MC := .seq f71_c28 f71_c31
def f71_c33 : MC := .blk 5 f71_c32
def f71_c34 : MC := .seq f71_c27 f71_c33
def f71_c35 : MC := .loop f71_c34
def f71_c36 : MC := .blk 4 f71_c35
def f71_r37 : List MO := [
(Qa (Qv 49) (Qd (Qn 7))),
(Qa (Qv 50) (Qd (Qn 6))),
(Qa (Qv 51) (Qe Qt Go.BinOp.add (Qn 49) (Qn 50))),
(Qa (Qv 9) (Qd (Qn 51)))]
def f71_c37 : MC := .reg false f71_r37
def f71_r38 : List MO := [
(Qa (Qv 52) (Qd (Qn 9))),
(Qa (Qv 53) (Qd (Qn 1))),
(Qa (Qv 54) (Qe Qt Go.BinOp.lss (Qn 52) (Qn 53)))]
def f71_c38 : MC := .reg false f71_r38
def f71_r39 : List MO := [
(Qa (Qv 55) (Qd (Qn 0))),
(Qa (Qv 56) (Qd (Qn 7))),
(Qa (Qv 57) (Qd (Qn 9))),
(Qa (Qv 58) (Qd (Qn 1))),
(Qa (Qv 59) (Qd (Qn 2))),
(Qa (Qv 60) (Qh 85 [(Qn 55), (Qn 56), (Qn 57), (Qn 58), (Qn 59)]))]
def f71_c39 : MC := .reg false f71_r39
def f71_c40 : MC := MC.skip
def f71_c41 : MC := .cond (Qn 54) f71_c39 f71_c40
def f71_c42 : MC := .seq f71_c38 f71_c41
def f71_c43 : MC := .seq f71_c37 f71_c42
def f71_r44 : List MO := [
(Qa (Qv 61) (Qd (Qn 6))),
(Qa (Qv 62) (Qe Qt Go.BinOp.mul (Qn 61) (Qo (Qp (Qq (Qr Qu 2)))))),
(Qa (Qv 6) (Qd (Qn 62)))]
def f71_c44 : MC := .reg false f71_r44
def f71_c45 : MC := .seq f71_c43 f71_c44
def f71_c46 : MC := .seq f71_c36 f71_c45
def f71_c47 : MC := .seq f71_c22 f71_c46
def f71_c48 : MC := .blk 3 f71_c47
def f71_c49 : MC := .seq f71_c21 f71_c48
def f71_c50 : MC := .loop f71_c49
def f71_c51 : MC := .blk 2 f71_c50
def f71_c52 : MC := .seq f71_c16 f71_c51
def f71_c53 : MC := .seq f71_c15 f71_c52
def f71_c54 : MC := .seq f71_c1 f71_c53
def f71_c55 : MC := .seq f71_c0 f71_c54
noncomputable def f71_code : Code := (Go.Proofs.Tryd.f71.body).getD .skip
theorem f71_body : Go.Proofs.Tryd.f71.body = Qv f71_code := by kernel_rfl
theorem f71_tr : trC Go.Proofs.Tryd.prog [] f71_code = Qv f71_c55 := by kernel_rfl
theorem f71_rs : rsOf Go.Proofs.Tryd.prog Go.Proofs.Tryd.f71.results.toList = Qv [] := by kernel_rfl
theorem f71_nt : Go.Proofs.Tryd.f71.ntmps = 63 := by kernel_rfl
theorem f71_ok : callable Go.Proofs.Tryd.prog 71 = true := by kernel_rfl
theorem f71_in {gp : Heap} {args : List V} {res : V} (h : G ⟨Go.Proofs.Tryd.prog, gp, 0, [], fun r c => r = res ∧ c = [], false⟩ [.code f71_c55, .fin] ⟨args ++ List.replicate (63 - args.length) .un, []⟩) : Does Go.Proofs.Tryd.prog gp 71 args res :=
  does_intro f71_ok Go.Proofs.Tryd.func71 f71_body f71_tr f71_rs (by rw [f71_nt]; exact h)
theorem f71_tri {gp : Heap} {args : List V} {pre : List Ch} {R : V → List Ch → Prop} (h : G ⟨Go.Proofs.Tryd.prog, gp, pre.length, [], R, false⟩ [.code f71_c55, .fin] ⟨args ++ List.replicate (63 - args.length) .un, pre⟩) : Tri Go.Proofs.Tryd.prog gp 71 args pre R :=
  tri_intro Go.Proofs.Tryd.func71 f71_body f71_tr f71_rs (by rw [f71_nt]; exact h)
-- f72: no body
-- f73: trC none
def f80_r0 : List MO := [
(Qa (Qv 2) (Qd (Qo (Qp (Qq (Qs false))))))]
def f80_c0 : MC := .reg false f80_r0
def f80_r1 : List MO := [
(Qa (Qv 3) (Qd (Qn 0))),
(Qa (Qv 4) (Qh 87 [(Qn 3), (Qo (Qp (Qq (Qs false))))])),
(Qa (Qv 5) (MOp.not (Qn 4))),
(Qa (Qv 2) (Qd (Qn 5)))]
def f80_c1 : MC := .reg false f80_r1
def f80_c2 : MC := MC.ret
def f80_c3 : MC := .seq f80_c1 f80_c2
def f80_c4 : MC := .seq f80_c0 f80_c3
noncomputable def f80_code : Code := (Go.Proofs.Tryd.f80.body).getD .skip
theorem f80_body : Go.Proofs.Tryd.f80.body = Qv f80_code := by kernel_rfl
theorem f80_tr : trC Go.Proofs.Tryd.prog [] f80_code = Qv f80_c4 := by kernel_rfl
theorem f80_rs : rsOf Go.Proofs.Tryd.prog Go.Proofs.Tryd.f80.results.toList = Qv [(RV.t 2)] := by kernel_rfl
theorem f80_nt : Go.Proofs.Tryd.f80.ntmps = 6 := by kernel_rfl
theorem f80_ok : callable Go.Proofs.Tryd.prog 80 = true := by kernel_rfl
theorem f80_in {gp : Heap} {args : List V} {res : V} (h : G ⟨Go.Proofs.Tryd.prog, gp, 0, [(RV.t 2)], fun r c => r = res ∧ c = [], false⟩ [.code f80_c4, .fin] ⟨args ++ List.replicate (6 - args.length) .un, []⟩) : Does Go.Proofs.Tryd.prog gp 80 args res :=
  does_intro f80_ok Go.Proofs.Tryd.func80 f80_body f80_tr f80_rs (by rw [f80_nt]; exact h)
theorem f80_tri {gp : Heap} {args : List V} {pre : List Ch} {R : V → List Ch → Prop} (h : G ⟨Go.Proofs.Tryd.prog, gp, pre.length, [(RV.t 2)], R, false⟩ [.code f80_c4, .fin] ⟨args ++ List.replicate (6 - args.length) .un, pre⟩) : Tri Go.Proofs.Tryd.prog gp 80 args pre R :=
  tri_intro Go.Proofs.Tryd.func80 f80_body f80_tr f80_rs (by rw [f80_nt]; exact h)
def f81_r0 : List MO := [
(Qa (Qv 1) (MOp.ibox (Qn 0))),
(Qa (Qv 2) (Qd (Qo (Qp (Qq (Qs false))))))]
def f81_c0 : MC := .reg false f81_r0
def f81_r1 : List MO := [
(Qa (Qv 3) (Qg 0 (Qn 1))),
(Qa (Qv 4) (Qf 1 false (Qn 3)))]
def f81_c1 : MC := .reg false f81_r1
def f81_r2 : List MO := [
(Qa (Qv 6) (Qe Qt Go.BinOp.eql (Qn 4) (Qo (Qp (Qq (Qr Qu 0)))))),
(Qa (Qv 5) (Qd (Qn 6)))]
def f81_c2 : MC := .reg false f81_r2
def f81_r3 : List MO := [
(Qa (Qv 7) (Qf 3 true (Qn 1))),
(Qa (Qv 8) (MOp.build [(Qr Qu 0), (Qr Qu 0), (D.str (ByteArray.mk #[]))] [])),
(Qa (Qv 9) (MOp.eqs false [Qt, Qt, Leaf.s] (Qn 7) (Qn 8))),
(Qa (Qv 2) (Qd (Qn 9)))]
def f81_c3 : MC := .reg false f81_r3
def f81_c4 : MC := MC.ret
def f81_c5 : MC := .seq f81_c3 f81_c4
def f81_r6 : List MO := [
(Qa (Qv 11) (Qe Qt Go.BinOp.eql (Qn 4) (Qo (Qp (Qq (Qr Qu 1)))))),
(Qa (Qv 10) (Qd (Qn 11)))]
def f81_c6 : MC := .reg false f81_r6
def f81_r7 : List MO := [
(Qa (Qv 12) (Qg 2 (Qn 1))),
(Qa (Qv 13) (Qf 1 false (Qn 12))),
(Qa (Qv 14) (Qe Leaf.s Go.BinOp.eql (Qn 13) (Qo (Qp (Qq (D.str (ByteArray.mk #[]))))))),
(Qa (Qv 15) (Qd (Qn 14))),
(Qb 15 true (Qv 16)),
(Qa (Qv 16) (Qg 1 (Qn 1))),
(Qb 15 true (Qv 17)),
(Qa (Qv 17) (Qf 1 false (Qn 16))),
(Qb 15 true (Qv 18)),
(Qa (Qv 18) (Qe Qt Go.BinOp.eql (Qn 17) (Qo (Qp (Qq (Qr Qu 0)))))),
(Qb 15 true (Qv 19)),
(Qa (Qv 19) (Qd (Qn 18))),
(Qb 19 false (Qv 20)),
(Qa (Qv 20) (Qg 1 (Qn 1))),
(Qb 19 false (Qv 21)),
(Qa (Qv 21) (Qf 1 false (Qn 20))),
(Qb 19 false (Qv 22)),
(Qa (Qv 22) (Qe Qt Go.BinOp.eql (Qn 21) (Qo (Qp (Qq (Qr Qu 1)))))),
(Qb 15 true (Qv 23)),
(Qa (Qv 23) (Qm (Qn 19) (Qo (Qp (Qq (Qs true)))) (Qn 22))),
(Qa (Qv 24) (Qm (Qn 15) (Qn 23) (Qo (Qp (Qq (Qs false)))))),
(Qa (Qv 2) (Qd (Qn 24)))]
def f81_c7 : MC := .reg false f81_r7
def f81_c8 : MC := MC.ret
def f81_c9 : MC := .seq f81_c7 f81_c8
def f81_r10 : List MO := [
(Qa (Qv 26) (Qe Qt Go.BinOp.eql (Qn 4) (Qo (Qp (Qq (Qr Qu 2)))))),
(Qa (Qv 25) (Qd (Qn 26)))]
def f81_c10 : MC := .reg false f81_r10
def f81_r11 : List MO := [
(Qa (Qv 27) (Qg 2 (Qn 1))),
(Qa (Qv 28) (Qf 1 false (Qn 27))),
(Qa (Qv 29) (Qe Leaf.s Go.BinOp.eql (Qn 28) (Qo (Qp (Qq (D.str (ByteArray.mk #[]))))))),
(Qa (Qv 30) (Qd (Qn 29))),
(Qb 30 true (Qv 31)),
(Qa (Qv 31) (Qg 1 (Qn 1))),
(Qb 30 true (Qv 32)),
(Qa (Qv 32) (Qf 1 false (Qn 31))),
(Qb 30 true (Qv 33)),
(Qa (Qv 33) (Qe Qt Go.BinOp.geq (Qn 32) (Qo (Qp (Qq (Qr Qu (-999999999999999))))))),
(Qa (Qv 34) (Qm (Qn 30) (Qn 33) (Qo (Qp (Qq (Qs false)))))),
(Qa (Qv 35) (Qd (Qn 34))),
(Qb 35 true (Qv 36)),
(Qa (Qv 36) (Qg 1 (Qn 1))),
(Qb 35 true (Qv 37)),
(Qa (Qv 37) (Qf 1 false (Qn 36))),
(Qb 35 true (Qv 38)),
(Qa (Qv 38) (Qe Qt Go.BinOp.leq (Qn 37) (Qo (Qp (Qq (Qr Qu 999999999999999)))))),
(Qa (Qv 39) (Qm (Qn 35) (Qn 38) (Qo (Qp (Qq (Qs false)))))),
(Qa (Qv 2) (Qd (Qn 39)))]
def f81_c11 : MC := .reg false f81_r11
def f81_c12 : MC := MC.ret
def f81_c13 : MC := .seq f81_c11 f81_c12
def f81_r14 : List MO := [
(Qa (Qv 41) (Qe Qt Go.BinOp.eql (Qn 4) (Qo (Qp (Qq (Qr Qu 3)))))),
(Qa (Qv 40) (Qd (Qn 41)))]
def f81_c14 : MC := .reg false f81_r14
def f81_r15 : List MO := [
(Qa (Qv 42) (Qg 1 (Qn 1))),
(Qa (Qv 43) (Qf 1 false (Qn 42))),
(Qa (Qv 44) (Qe Qt Go.BinOp.eql (Qn 43) (Qo (Qp (Qq (Qr Qu 0)))))),
(Qa (Qv 45) (Qd (Qn 44))),
(Qb 45 true (Qv 46)),
(Qa (Qv 46) (Qg 2 (Qn 1))),
(Qb 45 true (Qv 47)),
(Qa (Qv 47) (Qf 1 false (Qn 46))),
(Qb 45 true (Qv 48)),
(Qa (Qv 48) (Qh 88 [(Qn 47)])),
(Qa (Qv 49) (Qm (Qn 45) (Qn 48) (Qo (Qp (Qq (Qs false)))))),
(Qa (Qv 2) (Qd (Qn 49)))]
def f81_c15 : MC := .reg false f81_r15
def f81_c16 : MC := MC.ret
def f81_c17 : MC := .seq f81_c15 f81_c16
def f81_c18 : MC := MC.skip
def f81_c19 : MC := .cond (Qn 40) f81_c17 f81_c18
def f81_c20 : MC := .seq f81_c14 f81_c19
def f81_c21 : MC := .cond (Qn 25) f81_c13 f81_c20
def f81_c22 : MC := .seq f81_c10 f81_c21
def f81_c23 : MC := .cond (Qn 10) f81_c9 f81_c22
def f81_c24 : MC := .seq f81_c6 f81_c23
def f81_c25 : MC := .cond (Qn 5) f81_c5 f81_c24
def f81_c26 : MC := .seq f81_c2 f81_c25
def f81_c27 : MC := .blk 0 f81_c26
def f81_c28 : MC := .seq f81_c1 f81_c27
def f81_r29 : List MO := [
(Qa (Qv 2) (Qd (Qo (Qp (Qq (Qs false))))))]
def f81_c29 : MC := .reg false f81_r29
def f81_c30 : MC := MC.ret
def f81_c31 : MC := .seq f81_c29 f81_c30
def f81_c32 : MC := .seq f81_c28 f81_c31
def f81_c33 : MC := .seq f81_c0 f81_c32
noncomputable def f81_code : Code := (Go.Proofs.Tryd.f81.body).getD .skip
theorem f81_body : Go.Proofs.Tryd.f81.body = Qv f81_code := by kernel_rfl
theorem f81_tr : trC Go.Proofs.Tryd.prog [1] f81_code = Qv f81_c33 := by kernel_rfl
theorem f81_rs : rsOf Go.Proofs.Tryd.prog Go.Proofs.Tryd.f81.results.toList = Qv [(RV.t 2)] := by kernel_rfl
theorem f81_nt : Go.Proofs.Tryd.f81.ntmps = 50 := by kernel_rfl
theorem f81_ok : callable Go.Proofs.Tryd.prog 81 = true := by kernel_rfl
theorem f81_in {gp : Heap} {args : List V} {res : V} (h : G ⟨Go.Proofs.Tryd.prog, gp, 0, [(RV.t 2)], fun r c => r = res ∧ c = [], false⟩ [.code f81_c33, .fin] ⟨args ++ List.replicate (50 - args.length) .un, []⟩) : Does Go.Proofs.Tryd.prog gp 81 args res :=
  does_intro f81_ok Go.Proofs.Tryd.func81 f81_body f81_tr f81_rs (by rw [f81_nt]; exact h)
theorem f81_tri {gp : Heap} {args : List V} {pre : List Ch} {R : V → List Ch → Prop} (h : G ⟨Go.Proofs.Tryd.prog, gp, pre.length, [(RV.t 2)], R, false⟩ [.code f81_c33, .fin] ⟨args ++ List.replicate (50 - args.length) .un, pre⟩) : Tri Go.Proofs.Tryd.prog gp 81 args pre R :=
  tri_intro Go.Proofs.Tryd.func81 f81_body f81_tr f81_rs (by rw [f81_nt]; exact h)
def f82_r0 : List MO := [
(Qa (Qv 1) (MOp.ibox (Qn 0))),
(Qa (Qv 2) (Qd (Qo (Qp (Qq (Qs false))))))]
def f82_c0 : MC := .reg false f82_r0
def f82_r1 : List MO := [
(Qa (Qv 4) (MOp.mkF (Go.Fn.func 89) [(Qn 1)])),
(Qa (Qv 3) (Qd (Qn 4)))]
def f82_c1 : MC := .reg false f82_r1
def f82_r2 : List MO := [
(Qa (Qv 5) (Qg 0 (Qn 1))),
(Qa (Qv 6) (Qg 5 (Qn 5))),
(Qa (Qv 7) (Qf 1 false (Qn 6))),
(Qa (Qv 8) (Qd (Qn 3))),
(Qa (Qv 9) (Qh 90 [(Qn 7), (Qn 8)])),
(Qa (Qv 10) (MOp.not (Qn 9))),
(Qa (Qv 2) (Qd (Qn 10)))]
def f82_c2 : MC := .reg false f82_r2
def f82_c3 : MC := MC.ret
def f82_c4 : MC := .seq f82_c2 f82_c3
def f82_c5 : MC := .seq f82_c1 f82_c4
def f82_c6 : MC := .seq f82_c0 f82_c5
noncomputable def f82_code : Code := (Go.Proofs.Tryd.f82.body).getD .skip
theorem f82_body : Go.Proofs.Tryd.f82.body = Qv f82_code := by kernel_rfl
theorem f82_tr : trC Go.Proofs.Tryd.prog [1] f82_code = Qv f82_c6 := by kernel_rfl
theorem f82_rs : rsOf Go.Proofs.Tryd.prog Go.Proofs.Tryd.f82.results.toList = Qv [(RV.t 2)] := by kernel_rfl
theorem f82_nt : Go.Proofs.Tryd.f82.ntmps = 11 := by kernel_rfl
theorem f82_ok : callable Go.Proofs.Tryd.prog 82 = true := by kernel_rfl
theorem f82_in {gp : Heap} {args : List V} {res : V} (h : G ⟨Go.Proofs.Tryd.prog, gp, 0, [(RV.t 2)], fun r c => r = res ∧ c = [], false⟩ [.code f82_c6, .fin] ⟨args ++ List.replicate (11 - args.length) .un, []⟩) : Does Go.Proofs.Tryd.prog gp 82 args res :=
  does_intro f82_ok Go.Proofs.Tryd.func82 f82_body f82_tr f82_rs (by rw [f82_nt]; exact h)
theorem f82_tri {gp : Heap} {args : List V} {pre : List Ch} {R : V → List Ch → Prop} (h : G ⟨Go.Proofs.Tryd.prog, gp, pre.length, [(RV.t 2)], R, false⟩ [.code f82_c6, .fin] ⟨args ++ List.replicate (11 - args.length) .un, pre⟩) : Tri Go.Proofs.Tryd.prog gp 82 args pre R :=
  tri_intro Go.Proofs.Tryd.func82 f82_body f82_tr f82_rs (by rw [f82_nt]; exact h)
def f83_r0 : List MO := [
(Qa (Qv 1) (MOp.ibox (Qn 0))),
(Qa (Qv 2) (Qd (Qo (Qp (Qq (Qs false))))))]
def f83_c0 : MC := .reg false f83_r0
def f83_r1 : List MO := [
(Qa (Qv 3) (Qd (Qo (Qp (Qq (D.fn (Go.Fn.func 91) []))))))]
def f83_c1 : MC := .reg false f83_r1
def f83_r2 : List MO := [
(Qa (Qv 4) (Qg 0 (Qn 1))),
(Qa (Qv 5) (Qg 4 (Qn 4))),
(Qa (Qv 6) (Qf 1 false (Qn 5))),
(Qa (Qv 7) (Qd (Qn 3))),
(Qa (Qv 8) (Qh 92 [(Qn 6), (Qn 7)])),
(Qa (Qv 9) (MOp.not (Qn 8))),
(Qa (Qv 10) (Qd (Qn 9))),
(Qb 10 true (Qv 11)),
(Qa (Qv 11) (Qg 0 (Qn 1))),
(Qb 10 true (Qv 12)),
(Qa (Qv 12) (Qg 4 (Qn 11))),
(Qb 10 true (Qv 13)),
(Qa (Qv 13) (Qf 1 false (Qn 12))),
(Qb 10 true (Qv 14)),
(Qa (Qv 14) (Qh 93 [(Qn 13)])),
(Qb 10 true (Qv 15)),
(Qa (Qv 15) (MOp.not (Qn 14))),
(Qa (Qv 16) (Qm (Qn 10) (Qn 15) (Qo (Qp (Qq (Qs false)))))),
(Qa (Qv 2) (Qd (Qn 16)))]
def f83_c2 : MC := .reg false f83_r2
def f83_c3 : MC := MC.ret
def f83_c4 : MC := .seq f83_c2 f83_c3
def f83_c5 : MC := .seq f83_c1 f83_c4
def f83_c6 : MC := .seq f83_c0 f83_c5
noncomputable def f83_code : Code := (Go.Proofs.Tryd.f83.body).getD .skip
theorem f83_body : Go.Proofs.Tryd.f83.body = Qv f83_code := by kernel_rfl
theorem f83_tr : trC Go.Proofs.Tryd.prog [1] f83_code = Qv f83_c6 := by kernel_rfl
theorem f83_rs : rsOf Go.Proofs.Tryd.prog Go.Proofs.Tryd.f83.results.toList = Qv [(RV.t 2)] := by kernel_rfl
theorem f83_nt : Go.Proofs.Tryd.f83.ntmps = 17 := by kernel_rfl
theorem f83_ok : callable Go.Proofs.Tryd.prog 83 = true := by kernel_rfl
theorem f83_in {gp : Heap} {args : List V} {res : V} (h : G ⟨Go.Proofs.Tryd.prog, gp, 0, [(RV.t 2)], fun r c => r = res ∧ c = [], false⟩ [.code f83_c6, .fin] ⟨args ++ List.replicate (17 - args.length) .un, []⟩) : Does Go.Proofs.Tryd.prog gp 83 args res :=
  does_intro f83_ok Go.Proofs.Tryd.func83 f83_body f83_tr f83_rs (by rw [f83_nt]; exact h)
theorem f83_tri {gp : Heap} {args : List V} {pre : List Ch} {R : V → List Ch → Prop} (h : G ⟨Go.Proofs.Tryd.prog, gp, pre.length, [(RV.t 2)], R, false⟩ [.code f83_c6, .fin] ⟨args ++ List.replicate (17 - args.length) .un, pre⟩) : Tri Go.Proofs.Tryd.prog gp 83 args pre R :=
  tri_intro Go.Proofs.Tryd.func83 f83_body f83_tr f83_rs (by rw [f83_nt]; exact h)
def f84_r0 : List MO := [
(Qa (Qv 10) (Qd (Qn 1))),
(Qa (Qv 11) (Qe Qt Go.BinOp.add (Qn 10) (Qo (Qp (Qq (Qr Qu 1)))))),
(Qa (Qv 8) (Qd (Qn 11)))]
def f84_c0 : MC := .reg false f84_r0
def f84_r1 : List MO := [
(Qa (Qv 12) (Qd (Qn 8))),
(Qa (Qv 13) (Qd (Qn 2))),
(Qa (Qv 14) (Qe Qt Go.BinOp.lss (Qn 12) (Qn 13)))]
def f84_c1 : MC := .reg false f84_r1
def f84_c2 : MC := MC.skip
def f84_c3 : MC := (MC.exit 0)
def f84_c4 : MC := .cond (Qn 14) f84_c2 f84_c3
def f84_c5 : MC := .seq f84_c1 f84_c4
def f84_r6 : List MO := [
(Qa (Qv 17) (Qd (Qn 8))),
(Qa (Qv 9) (Qd (Qn 17)))]
def f84_c6 : MC := .reg false f84_r6
def f84_r7 : List MO := [
(Qa (Qv 18) (Qd (Qn 9))),
(Qa (Qv 19) (Qd (Qn 1))),
(Qa (Qv 20) (Qe Qt Go.BinOp.gtr (Qn 18) (Qn 19))),
(Qa (Qv 21) (Qd (Qn 20))),
(Qb 21 true (Qv 22)),
(Qa (Qv 22) (Qd (Qn 3))),
(Qb 21 true (Qv 23)),
(Qa (Qv 23) (Qd (Qn 0))),
(Qb 21 true (Qv 24)),
(Qa (Qv 24) (Qd (Qn 9))),
(Qb 21 true (Qv 25)),
(Qa (Qv 25) (Qj 4 (Qn 23) (Qn 24))),
(Qb 21 true (Qv 26)),
(Qa (Qv 26) (Qf 4 true (Qn 25))),
(Qb 21 true (Qv 27)),
(Qa (Qv 27) (Qd (Qn 0))),
(Qb 21 true (Qv 28)),
(Qa (Qv 28) (Qd (Qn 9))),
(Qb 21 true (Qv 29)),
(Qa (Qv 29) (Qe Qt Go.BinOp.sub (Qn 28) (Qo (Qp (Qq (Qr Qu 1)))))),
(Qb 21 true (Qv 30)),
(Qa (Qv 30) (Qj 4 (Qn 27) (Qn 29))),
(Qb 21 true (Qv 31)),
(Qa (Qv 31) (Qf 4 true (Qn 30))),
(Qb 21 true (Qv 32)),
(Qc (Qv 32) (MOp.callv (Qn 22) [(Qn 26), (Qn 31)])),
(Qb 21 true (Qv 33)),
(Qa (Qv 33) (Qe Qt Go.BinOp.lss (Qn 32) (Qo (Qp (Qq (Qr Qu 0)))))),
(Qa (Qv 34) (Qm (Qn 21) (Qn 33) (Qo (Qp (Qq (Qs false))))))]
def f84_c7 : MC := .reg true f84_r7
def f84_c8 : MC := MC.skip
def f84_c9 : MC := (MC.exit 2)
def f84_c10 : MC := .cond (Qn 34) f84_c8 f84_c9
def f84_c11 : MC := .seq f84_c7 f84_c10
def f84_r12 : List MO := [
(Qa (Qv 37) (Qd (Qn 0))),
(Qa (Qv 38) (Qd (Qn 9))),
(Qa (Qv 39) (Qd (Qn 0))),
(Qa (Qv 40) (Qd (Qn 9))),
(Qa (Qv 41) (Qe Qt Go.BinOp.sub (Qn 40) (Qo (Qp (Qq (Qr Qu 1)))))),
(Qa (Qv 42) (Qd (Qn 0))),
(Qa (Qv 43) (Qd (Qn 9))),
(Qa (Qv 44) (Qe Qt Go.BinOp.sub (Qn 43) (Qo (Qp (Qq (Qr Qu 1)))))),
(Qa (Qv 45) (Qj 4 (Qn 42) (Qn 44))),
(Qa (Qv 46) (Qf 4 true (Qn 45))),
(Qa (Qv 47) (Qd (Qn 0))),
(Qa (Qv 48) (Qd (Qn 9))),
(Qa (Qv 49) (Qj 4 (Qn 47) (Qn 48))),
(Qa (Qv 50) (Qf 4 true (Qn 49))),
(Qa (Qv 51) (Qj 4 (Qn 37) (Qn 38))),
(Qa none (Ql 4 (Qn 51) (Qn 46))),
(Qa (Qv 52) (Qj 4 (Qn 39) (Qn 41))),
(Qa none (Ql 4 (Qn 52) (Qn 50)))]
def f84_c12 : MC := .reg true f84_r12
def f84_c13 : MC := .blk 3 f84_c12
def f84_r14 : List MO := [
(Qa (Qv 35) (Qd (Qn 9))),
(Qa (Qv 36) (Qe Qt Go.BinOp.sub (Qn 35) (Qo (Qp (Qq (Qr Qu 1)))))),
(Qa (Qv 9) (Qd (Qn 36)))]
def f84_c14 : MC := .reg false f84_r14
def f84_c15 : MC := .seq f84_c13 f84_c14
def f84_c16 : MC := .seq f84_c11 f84_c15
def f84_c17 : MC := .loop f84_c16
def f84_c18 : MC := .blk 2 f84_c17
def f84_c19 : MC := .seq f84_c6 f84_c18
def f84_c20 : MC := .blk 1 f84_c19
def f84_r21 : List MO := [
(Qa (Qv 15) (Qd (Qn 8))),
(Qa (Qv 16) (Qe Qt Go.BinOp.add (Qn 15) (Qo (Qp (Qq (Qr Qu 1)))))),
(Qa (Qv 8) (Qd (Qn 16)))]
def f84_c21 : MC := .reg false f84_r21
def f84_c22 : MC := .seq f84_c20 f84_c21
def f84_c23 : MC := .seq f84_c5 f84_c22
def f84_c24 : MC := .loop f84_c23
def f84_c25 : MC := .blk 0 f84_c24
def f84_c26 : MC := .seq f84_c0 f84_c25
noncomputable def f84_code : Code := (Go.Proofs.Tryd.f84.body).getD .skip
theorem f84_body : Go.Proofs.Tryd.f84.body = Qv f84_code := by kernel_rfl
theorem f84_tr : trC Go.Proofs.Tryd.prog [] f84_code = Qv f84_c26 := by kernel_rfl
theorem f84_rs : rsOf Go.Proofs.Tryd.prog Go.Proofs.Tryd.f84.results.toList = Qv [] := by kernel_rfl
theorem f84_nt : Go.Proofs.Tryd.f84.ntmps = 53 := by kernel_rfl
theorem f84_ok : callable Go.Proofs.Tryd.prog 84 = true := by kernel_rfl
theorem f84_in {gp : Heap} {args : List V} {res : V} (h : G ⟨Go.Proofs.Tryd.prog, gp, 0, [], fun r c => r = res ∧ c = [], false⟩ [.code f84_c26, .fin] ⟨args ++ List.replicate (53 - args.length) .un, []⟩) : Does Go.Proofs.Tryd.prog gp 84 args res :=
  does_intro f84_ok Go.Proofs.Tryd.func84 f84_body f84_tr f84_rs (by rw [f84_nt]; exact h)
theorem f84_tri {gp : Heap} {args : List V} {pre : List Ch} {R : V → List Ch → Prop} (h : G ⟨Go.Proofs.Tryd.prog, gp, pre.length, [], R, false⟩ [.code f84_c26, .fin] ⟨args ++ List.replicate (53 - args.length) .un, pre⟩) : Tri Go.Proofs.Tryd.prog gp 84 args pre R :=
  tri_intro Go.Proofs.Tryd.func84 f84_body f84_tr f84_rs (by rw [f84_nt]; exact h)
def f87_r0 : List MO := [
(Qa (Qv 4) (Qd (Qo (Qp (Qq (Qs false))))))]
def f87_c0 : MC := .reg false f87_r0
def f87_r1 : List MO := [
(Qa (Qv 5) (Qd (Qn 0))),
(Qa (Qv 6) (Qd (Qn 1))),
(Qa (Qv 7) (Qh 95 [(Qn 5), (Qn 6)])),
(Qa (Qv 8) (Qe Qt Go.BinOp.geq (Qn 7) (Qo (Qp (Qq (Qr Qu 0)))))),
(Qa (Qv 4) (Qd (Qn 8)))]
def f87_c1 : MC := .reg false f87_r1
def f87_c2 : MC := MC.ret
def f87_c3 : MC := .seq f87_c1 f87_c2
def f87_c4 : MC := .seq f87_c0 f87_c3
noncomputable def f87_code : Code := (Go.Proofs.Tryd.f87.body).getD .skip
theorem f87_body : Go.Proofs.Tryd.f87.body = Qv f87_code := by kernel_rfl
theorem f87_tr : trC Go.Proofs.Tryd.prog [] f87_code = Qv f87_c4 := by kernel_rfl
theorem f87_rs : rsOf Go.Proofs.Tryd.prog Go.Proofs.Tryd.f87.results.toList = Qv [(RV.t 4)] := by kernel_rfl
theorem f87_nt : Go.Proofs.Tryd.f87.ntmps = 9 := by kernel_rfl
theorem f87_ok : callable Go.Proofs.Tryd.prog 87 = true := by kernel_rfl
theorem f87_in {gp : Heap} {args : List V} {res : V} (h : G ⟨Go.Proofs.Tryd.prog, gp, 0, [(RV.t 4)], fun r c => r = res ∧ c = [], false⟩ [.code f87_c4, .fin] ⟨args ++ List.replicate (9 - args.length) .un, []⟩) : Does Go.Proofs.Tryd.prog gp 87 args res :=
  does_intro f87_ok Go.Proofs.Tryd.func87 f87_body f87_tr f87_rs (by rw [f87_nt]; exact h)
theorem f87_tri {gp : Heap} {args : List V} {pre : List Ch} {R : V → List Ch → Prop} (h : G ⟨Go.Proofs.Tryd.prog, gp, pre.length, [(RV.t 4)], R, false⟩ [.code f87_c4, .fin] ⟨args ++ List.replicate (9 - args.length) .un, pre⟩) : Tri Go.Proofs.Tryd.prog gp 87 args pre R :=
  tri_intro Go.Proofs.Tryd.func87 f87_body f87_tr f87_rs (by rw [f87_nt]; exact h)
def f88_r0 : List MO := [
(Qa (Qv 2) (Qd (Qo (Qp (Qq (Qs false))))))]
def f88_c0 : MC := .reg false f88_r0
def f88_r1 : List MO := [
(Qa (Qv 7) (Qd (Qn 0))),
(Qa (Qv 8) (MOp.rng (Qn 7)))]
def f88_c1 : MC := .reg false f88_r1
def f88_r2 : List MO := [
(Qa (Qv 9) (MOp.nxt (Qn 8))),
(Qa (Qv 10) (Qi (Qn 9) 0))]
def f88_c2 : MC := .reg false f88_r2
def f88_c3 : MC := MC.skip
def f88_c4 : MC := (MC.exit 0)
def f88_c5 : MC := .cond (Qn 10) f88_c3 f88_c4
def f88_r6 : List MO := [
(Qa (Qv 11) (Qi (Qn 9) 1)),
(Qa (Qv 12) (Qi (Qn 9) 2)),
(Qa (Qv 3) (Qd (Qn 11))),
(Qa (Qv 4) (Qd (Qn 12)))]
def f88_c6 : MC := .reg false f88_r6
def f88_r7 : List MO := [
(Qa (Qv 14) (Qd (Qn 0))),
(Qa (Qv 15) (Qd (Qn 3))),
(Qa (Qv 16) (MOp.slcS (Qn 14) (Qv (Qn 15)) none)),
(Qa (Qv 17) (Qh 96 [(Qn 16)])),
(Qa (Qv 13) (Qd (Qn 17))),
(Qa (Qv 18) (Qi (Qn 13) 0)),
(Qa (Qv 19) (Qi (Qn 13) 1)),
(Qa (Qv 5) (Qd (Qn 18))),
(Qa (Qv 6) (Qd (Qn 19)))]
def f88_c7 : MC := .reg false f88_r7
def f88_r8 : List MO := [
(Qa (Qv 20) (Qd (Qn 4))),
(Qa (Qv 21) (Qe Qt Go.BinOp.eql (Qn 20) (Qo (Qp (Qq (Qr Go.IntKind.i32 65533)))))),
(Qa (Qv 22) (Qd (Qn 21))),
(Qb 22 true (Qv 23)),
(Qa (Qv 23) (Qd (Qn 6))),
(Qb 22 true (Qv 24)),
(Qa (Qv 24) (Qe Qt Go.BinOp.eql (Qn 23) (Qo (Qp (Qq (Qr Qu 1)))))),
(Qa (Qv 25) (Qm (Qn 22) (Qn 24) (Qo (Qp (Qq (Qs false))))))]
def f88_c8 : MC := .reg false f88_r8
def f88_r9 : List MO := [
(Qa (Qv 2) (Qd (Qo (Qp (Qq (Qs false))))))]
def f88_c9 : MC := .reg false f88_r9
def f88_c10 : MC := MC.ret
def f88_c11 : MC := .seq f88_c9 f88_c10
def f88_c12 : MC := MC.skip
def f88_c13 : MC := .cond (Qn 25) f88_c11 f88_c12
def f88_c14 : MC := .seq f88_c8 f88_c13
def f88_c15 : MC := .seq f88_c7 f88_c14
def f88_c16 : MC := .seq f88_c6 f88_c15
def f88_c17 : MC := .blk 1 f88_c16
def f88_c18 : MC := .seq f88_c5 f88_c17
def f88_c19 : MC := .seq f88_c2 f88_c18
def f88_c20 : MC := .loop f88_c19
def f88_c21 : MC := .blk 0 f88_c20
def f88_c22 : MC := .seq f88_c1 f88_c21
def f88_r23 : List MO := [
(Qa (Qv 2) (Qd (Qo (Qp (Qq (Qs true))))))]
def f88_c23 : MC := .reg false f88_r23
def f88_c24 : MC := MC.ret
def f88_c25 : MC := .seq f88_c23 f88_c24
def f88_c26 : MC := .seq f88_c22 f88_c25
def f88_c27 : MC := .seq f88_c0 f88_c26
noncomputable def f88_code : Code := (Go.Proofs.Tryd.f88.body).getD .skip
theorem f88_body : Go.Proofs.Tryd.f88.body = Qv f88_code := by kernel_rfl
theorem f88_tr : trC Go.Proofs.Tryd.prog [] f88_code = Qv f88_c27 := by kernel_rfl
theorem f88_rs : rsOf Go.Proofs.Tryd.prog Go.Proofs.Tryd.f88.results.toList = Qv [(RV.t 2)] := by kernel_rfl
theorem f88_nt : Go.Proofs.Tryd.f88.ntmps = 26 := by kernel_rfl
theorem f88_ok : callable Go.Proofs.Tryd.prog 88 = true := by kernel_rfl
theorem f88_in {gp : Heap} {args : List V} {res : V} (h : G ⟨Go.Proofs.Tryd.prog, gp, 0, [(RV.t 2)], fun r c => r = res ∧ c = [], false⟩ [.code f88_c27, .fin] ⟨args ++ List.replicate (26 - args.length) .un, []⟩) : Does Go.Proofs.Tryd.prog gp 88 args res :=
  does_intro f88_ok Go.Proofs.Tryd.func88 f88_body f88_tr f88_rs (by rw [f88_nt]; exact h)
theorem f88_tri {gp : Heap} {args : List V} {pre : List Ch} {R : V → List Ch → Prop} (h : G ⟨Go.Proofs.Tryd.prog, gp, pre.length, [(RV.t 2)], R, false⟩ [.code f88_c27, .fin] ⟨args ++ List.replicate (26 - args.length) .un, pre⟩) : Tri Go.Proofs.Tryd.prog gp 88 args pre R :=
  tri_intro Go.Proofs.Tryd.func88 f88_body f88_tr f88_rs (by rw [f88_nt]; exact h)
def f89_r0 : List MO := [
(Qa (Qv 3) (Qd (Qo (Qp (Qq (Qs false))))))]
def f89_c0 : MC := .reg false f89_r0
def f89_r1 : List MO := [
(Qa (Qv 4) (Qd (Qn 0))),
(Qa (Qv 5) (Qe Qt Go.BinOp.lss (Qn 4) (Qo (Qp (Qq (Qr Qu 0)))))),
(Qa (Qv 6) (Qd (Qn 5))),
(Qb 6 false (Qv 7)),
(Qa (Qv 7) (Qd (Qn 0))),
(Qb 6 false (Qv 8)),
(Qa (Qv 8) (Qg 6 (Qn 1))),
(Qb 6 false (Qv 9)),
(Qa (Qv 9) (Qf 1 false (Qn 8))),
(Qb 6 false (Qv 10)),
(Qa (Qv 10) (Qe Qt Go.BinOp.geq (Qn 7) (Qn 9))),
(Qa (Qv 11) (Qm (Qn 6) (Qo (Qp (Qq (Qs true)))) (Qn 10))),
(Qa (Qv 3) (Qd (Qn 11)))]
def f89_c1 : MC := .reg false f89_r1
def f89_c2 : MC := MC.ret
def f89_c3 : MC := .seq f89_c1 f89_c2
def f89_c4 : MC := .seq f89_c0 f89_c3
noncomputable def f89_code : Code := (Go.Proofs.Tryd.f89.body).getD .skip
theorem f89_body : Go.Proofs.Tryd.f89.body = Qv f89_code := by kernel_rfl
theorem f89_tr : trC Go.Proofs.Tryd.prog [] f89_code = Qv f89_c4 := by kernel_rfl
theorem f89_rs : rsOf Go.Proofs.Tryd.prog Go.Proofs.Tryd.f89.results.toList = Qv [(RV.t 3)] := by kernel_rfl
theorem f89_nt : Go.Proofs.Tryd.f89.ntmps = 12 := by kernel_rfl
theorem f89_ok : callable Go.Proofs.Tryd.prog 89 = true := by kernel_rfl
theorem f89_in {gp : Heap} {args : List V} {res : V} (h : G ⟨Go.Proofs.Tryd.prog, gp, 0, [(RV.t 3)], fun r c => r = res ∧ c = [], false⟩ [.code f89_c4, .fin] ⟨args ++ List.replicate (12 - args.length) .un, []⟩) : Does Go.Proofs.Tryd.prog gp 89 args res :=
  does_intro f89_ok Go.Proofs.Tryd.func89 f89_body f89_tr f89_rs (by rw [f89_nt]; exact h)
theorem f89_tri {gp : Heap} {args : List V} {pre : List Ch} {R : V → List Ch → Prop} (h : G ⟨Go.Proofs.Tryd.prog, gp, pre.length, [(RV.t 3)], R, false⟩ [.code f89_c4, .fin] ⟨args ++ List.replicate (12 - args.length) .un, pre⟩) : Tri Go.Proofs.Tryd.prog gp 89 args pre R :=
  tri_intro Go.Proofs.Tryd.func89 f89_body f89_tr f89_rs (by rw [f89_nt]; exact h)
def f90_r0 : List MO := [
(Qa (Qv 4) (Qd (Qo (Qp (Qq (Qs false))))))]
def f90_c0 : MC := .reg false f90_r0
def f90_r1 : List MO := [
(Qa (Qv 5) (Qd (Qn 0))),
(Qa (Qv 6) (Qd (Qn 1))),
(Qa (Qv 7) (Qh 97 [(Qn 5), (Qn 6)])),
(Qa (Qv 8) (Qe Qt Go.BinOp.geq (Qn 7) (Qo (Qp (Qq (Qr Qu 0)))))),
(Qa (Qv 4) (Qd (Qn 8)))]
def f90_c1 : MC := .reg false f90_r1
def f90_c2 : MC := MC.ret
def f90_c3 : MC := .seq f90_c1 f90_c2
def f90_c4 : MC := .seq f90_c0 f90_c3
noncomputable def f90_code : Code := (Go.Proofs.Tryd.f90.body).getD .skip
theorem f90_body : Go.Proofs.Tryd.f90.body = Qv f90_code := by kernel_rfl
theorem f90_tr : trC Go.Proofs.Tryd.prog [] f90_code = Qv f90_c4 := by kernel_rfl
theorem f90_rs : rsOf Go.Proofs.Tryd.prog Go.Proofs.Tryd.f90.results.toList = Qv [(RV.t 4)] := by kernel_rfl
theorem f90_nt : Go.Proofs.Tryd.f90.ntmps = 9 := by kernel_rfl
theorem f90_ok : callable Go.Proofs.Tryd.prog 90 = true := by kernel_rfl
theorem f90_in {gp : Heap} {args : List V} {res : V} (h : G ⟨Go.Proofs.Tryd.prog, gp, 0, [(RV.t 4)], fun r c => r = res ∧ c = [], false⟩ [.code f90_c4, .fin] ⟨args ++ List.replicate (9 - args.length) .un, []⟩) : Does Go.Proofs.Tryd.prog gp 90 args res :=
  does_intro f90_ok Go.Proofs.Tryd.func90 f90_body f90_tr f90_rs (by rw [f90_nt]; exact h)
theorem f90_tri {gp : Heap} {args : List V} {pre : List Ch} {R : V → List Ch → Prop} (h : G ⟨Go.Proofs.Tryd.prog, gp, pre.length, [(RV.t 4)], R, false⟩ [.code f90_c4, .fin] ⟨args ++ List.replicate (9 - args.length) .un, pre⟩) : Tri Go.Proofs.Tryd.prog gp 90 args pre R :=
  tri_intro Go.Proofs.Tryd.func90 f90_body f90_tr f90_rs (by rw [f90_nt]; exact h)
def f91_r0 : List MO := [
(Qa (Qv 1) (MOp.ibox (Qn 0))),
(Qa (Qv 2) (Qd (Qo (Qp (Qq (Qs false))))))]
def f91_c0 : MC := .reg false f91_r0
def f91_r1 : List MO := [
(Qa (Qv 3) (Qf 3 true (Qn 1))),
(Qa (Qv 4) (Qh 81 [(Qn 3)])),
(Qa (Qv 5) (MOp.not (Qn 4))),
(Qa (Qv 2) (Qd (Qn 5)))]
def f91_c1 : MC := .reg false f91_r1
def f91_c2 : MC := MC.ret
def f91_c3 : MC := .seq f91_c1 f91_c2
def f91_c4 : MC := .seq f91_c0 f91_c3
noncomputable def f91_code : Code := (Go.Proofs.Tryd.f91.body).getD .skip
theorem f91_body : Go.Proofs.Tryd.f91.body = Qv f91_code := by kernel_rfl
theorem f91_tr : trC Go.Proofs.Tryd.prog [1] f91_code = Qv f91_c4 := by kernel_rfl
theorem f91_rs : rsOf Go.Proofs.Tryd.prog Go.Proofs.Tryd.f91.results.toList = Qv [(RV.t 2)] := by kernel_rfl
theorem f91_nt : Go.Proofs.Tryd.f91.ntmps = 6 := by kernel_rfl
theorem f91_ok : callable Go.Proofs.Tryd.prog 91 = true := by kernel_rfl
theorem f91_in {gp : Heap} {args : List V} {res : V} (h : G ⟨Go.Proofs.Tryd.prog, gp, 0, [(RV.t 2)], fun r c => r = res ∧ c = [], false⟩ [.code f91_c4, .fin] ⟨args ++ List.replicate (6 - args.length) .un, []⟩) : Does Go.Proofs.Tryd.prog gp 91 args res :=
  does_intro f91_ok Go.Proofs.Tryd.func91 f91_body f91_tr f91_rs (by rw [f91_nt]; exact h)
theorem f91_tri {gp : Heap} {args : List V} {pre : List Ch} {R : V → List Ch → Prop} (h : G ⟨Go.Proofs.Tryd.prog, gp, pre.length, [(RV.t 2)], R, false⟩ [.code f91_c4, .fin] ⟨args ++ List.replicate (6 - args.length) .un, pre⟩) : Tri Go.Proofs.Tryd.prog gp 91 args pre R :=
  tri_intro Go.Proofs.Tryd.func91 f91_body f91_tr f91_rs (by rw [f91_nt]; exact h)
def f92_r0 : List MO := [
(Qa (Qv 4) (Qd (Qo (Qp (Qq (Qs false))))))]
def f92_c0 : MC := .reg false f92_r0
def f92_r1 : List MO := [
(Qa (Qv 5) (Qd (Qn 0))),
(Qa (Qv 6) (Qd (Qn 1))),
(Qa (Qv 7) (Qh 98 [(Qn 5), (Qn 6)])),
(Qa (Qv 8) (Qe Qt Go.BinOp.geq (Qn 7) (Qo (Qp (Qq (Qr Qu 0)))))),
(Qa (Qv 4) (Qd (Qn 8)))]
def f92_c1 : MC := .reg false f92_r1
def f92_c2 : MC := MC.ret
def f92_c3 : MC := .seq f92_c1 f92_c2
def f92_c4 : MC := .seq f92_c0 f92_c3
noncomputable def f92_code : Code := (Go.Proofs.Tryd.f92.body).getD .skip
theorem f92_body : Go.Proofs.Tryd.f92.body = Qv f92_code := by kernel_rfl
theorem f92_tr : trC Go.Proofs.Tryd.prog [] f92_code = Qv f92_c4 := by kernel_rfl
theorem f92_rs : rsOf Go.Proofs.Tryd.prog Go.Proofs.Tryd.f92.results.toList = Qv [(RV.t 4)] := by kernel_rfl
theorem f92_nt : Go.Proofs.Tryd.f92.ntmps = 9 := by kernel_rfl
theorem f92_ok : callable Go.Proofs.Tryd.prog 92 = true := by kernel_rfl
theorem f92_in {gp : Heap} {args : List V} {res : V} (h : G ⟨Go.Proofs.Tryd.prog, gp, 0, [(RV.t 4)], fun r c => r = res ∧ c = [], false⟩ [.code f92_c4, .fin] ⟨args ++ List.replicate (9 - args.length) .un, []⟩) : Does Go.Proofs.Tryd.prog gp 92 args res :=
  does_intro f92_ok Go.Proofs.Tryd.func92 f92_body f92_tr f92_rs (by rw [f92_nt]; exact h)
theorem f92_tri {gp : Heap} {args : List V} {pre : List Ch} {R : V → List Ch → Prop} (h : G ⟨Go.Proofs.Tryd.prog, gp, pre.length, [(RV.t 4)], R, false⟩ [.code f92_c4, .fin] ⟨args ++ List.replicate (9 - args.length) .un, pre⟩) : Tri Go.Proofs.Tryd.prog gp 92 args pre R :=
  tri_intro Go.Proofs.Tryd.func92 f92_body f92_tr f92_rs (by rw [f92_nt]; exact h)
def f93_r0 : List MO := [
(Qa (Qv 2) (Qd (Qo (Qp (Qq (Qs false))))))]
def f93_c0 : MC := .reg false f93_r0
def f93_r1 : List MO := [
(Qa (Qv 3) (MOp.alloc [(Qr Qu 0)])),
(Qa none (Ql 1 (Qn 3) (Qo (Qp (Qq (Qr Qu 0))))))]
def f93_c1 : MC := .reg false f93_r1
def f93_r2 : List MO := [
(Qa (Qv 4) (Qd (Qn 0))),
(Qa (Qv 5) (Qh 99 [(Qn 4)]))]
def f93_c2 : MC := .reg false f93_r2
def f93_c3 : MC := MC.skip
def f93_r4 : List MO := [
(Qa (Qv 7) (Qf 1 false (Qn 3))),
(Qa (Qv 8) (Qe Qt Go.BinOp.add (Qn 7) (Qo (Qp (Qq (Qr Qu 1)))))),
(Qa none (Ql 1 (Qn 3) (Qn 8)))]
def f93_c4 : MC := .reg false f93_r4
def f93_c5 : MC := .blk 1 f93_c4
def f93_c6 : MC := .rf (Qn 5) [6] f93_c3 f93_c5
def f93_c7 : MC := .blk 0 f93_c6
def f93_c8 : MC := .seq f93_c2 f93_c7
def f93_r9 : List MO := [
(Qa (Qv 9) (Qf 1 false (Qn 3))),
(Qa (Qv 10) (Qd (Qn 0))),
(Qa (Qv 11) (Qk Qt (Qn 10))),
(Qa (Qv 12) (Qe Qt Go.BinOp.lss (Qn 9) (Qn 11))),
(Qa (Qv 2) (Qd (Qn 12)))]
def f93_c9 : MC := .reg false f93_r9
def f93_c10 : MC := MC.ret
def f93_c11 : MC := .seq f93_c9 f93_c10
def f93_c12 : MC := .seq f93_c8 f93_c11
def f93_c13 : MC := .seq f93_c1 f93_c12
def f93_c14 : MC := .seq f93_c0 f93_c13
noncomputable def f93_code : Code := (Go.Proofs.Tryd.f93.body).getD .skip
theorem f93_body : Go.Proofs.Tryd.f93.body = Qv f93_code := by kernel_rfl
theorem f93_tr : trC Go.Proofs.Tryd.prog [] f93_code = Qv f93_c14 := by kernel_rfl
theorem f93_rs : rsOf Go.Proofs.Tryd.prog Go.Proofs.Tryd.f93.results.toList = Qv [(RV.t 2)] := by kernel_rfl
theorem f93_nt : Go.Proofs.Tryd.f93.ntmps = 13 := by kernel_rfl
theorem f93_ok : callable Go.Proofs.Tryd.prog 93 = true := by kernel_rfl
theorem f93_in {gp : Heap} {args : List V} {res : V} (h : G ⟨Go.Proofs.Tryd.prog, gp, 0, [(RV.t 2)], fun r c => r = res ∧ c = [], false⟩ [.code f93_c14, .fin] ⟨args ++ List.replicate (13 - args.length) .un, []⟩) : Does Go.Proofs.Tryd.prog gp 93 args res :=
  does_intro f93_ok Go.Proofs.Tryd.func93 f93_body f93_tr f93_rs (by rw [f93_nt]; exact h)
theorem f93_tri {gp : Heap} {args : List V} {pre : List Ch} {R : V → List Ch → Prop} (h : G ⟨Go.Proofs.Tryd.prog, gp, pre.length, [(RV.t 2)], R, false⟩ [.code f93_c14, .fin] ⟨args ++ List.replicate (13 - args.length) .un, pre⟩) : Tri Go.Proofs.Tryd.prog gp 93 args pre R :=
  tri_intro Go.Proofs.Tryd.func93 f93_body f93_tr f93_rs (by rw [f93_nt]; exact h)
def f95_r0 : List MO := [
(Qa (Qv 4) (Qd (Qo (Qp (Qq (Qr Qu 0))))))]
def f95_c0 : MC := .reg false f95_r0
def f95_r1 : List MO := [
(Qa (Qv 6) (Qd (Qn 0))),
(Qa (Qv 7) (Qk Qt (Qn 6))),
(Qa (Qv 8) (Qd (Qo (Qp (Qq (Qr Qu 0))))))]
def f95_c1 : MC := .reg false f95_r1
def f95_r2 : List MO := [
(Qa (Qv 9) (Qe Qt Go.BinOp.lss (Qn 8) (Qn 7)))]
def f95_c2 : MC := .reg false f95_r2
def f95_c3 : MC := MC.skip
def f95_c4 : MC := (MC.exit 0)
def f95_c5 : MC := .cond (Qn 9) f95_c3 f95_c4
def f95_r6 : List MO := [
(Qa (Qv 10) (Qd (Qn 8))),
(Qa (Qv 5) (Qd (Qn 10)))]
def f95_c6 : MC := .reg false f95_r6
def f95_r7 : List MO := [
(Qa (Qv 11) (Qd (Qn 1))),
(Qa (Qv 12) (Qd (Qn 0))),
(Qa (Qv 13) (Qd (Qn 5))),
(Qa (Qv 14) (Qj 1 (Qn 12) (Qn 13))),
(Qa (Qv 15) (Qf 1 false (Qn 14))),
(Qa (Qv 16) (Qe Leaf.b Go.BinOp.eql (Qn 11) (Qn 15)))]
def f95_c7 : MC := .reg false f95_r7
def f95_r8 : List MO := [
(Qa (Qv 17) (Qd (Qn 5))),
(Qa (Qv 4) (Qd (Qn 17)))]
def f95_c8 : MC := .reg false f95_r8
def f95_c9 : MC := MC.ret
def f95_c10 : MC := .seq f95_c8 f95_c9
def f95_c11 : MC := MC.skip
def f95_c12 : MC := .cond (Qn 16) f95_c10 f95_c11
def f95_c13 : MC := .seq f95_c7 f95_c12
def f95_c14 : MC := .seq f95_c6 f95_c13
def f95_c15 : MC := .blk 1 f95_c14
def f95_r16 : List MO := [
(Qa (Qv 18) (Qe Qt Go.BinOp.add (Qn 8) (Qo (Qp (Qq (Qr Qu 1)))))),
(Qa (Qv 8) (Qd (Qn 18)))]
def f95_c16 : MC := .reg false f95_r16
def f95_c17 : MC := .seq f95_c15 f95_c16
def f95_c18 : MC := .seq f95_c5 f95_c17
def f95_c19 : MC := .seq f95_c2 f95_c18
def f95_c20 : MC := .loop f95_c19
def f95_c21 : MC := .blk 0 f95_c20
def f95_c22 : MC := .seq f95_c1 f95_c21
def f95_r23 : List MO := [
(Qa (Qv 4) (Qd (Qo (Qp (Qq (Qr Qu (-1)))))))]
def f95_c23 : MC := .reg false f95_r23
def f95_c24 : MC := MC.ret
def f95_c25 : MC := .seq f95_c23 f95_c24
def f95_c26 : MC := .seq f95_c22 f95_c25
def f95_c27 : MC := .seq f95_c0 f95_c26
noncomputable def f95_code : Code := (Go.Proofs.Tryd.f95.body).getD .skip
theorem f95_body : Go.Proofs.Tryd.f95.body = Qv f95_code := by kernel_rfl
theorem f95_tr : trC Go.Proofs.Tryd.prog [] f95_code = Qv f95_c27 := by kernel_rfl
theorem f95_rs : rsOf Go.Proofs.Tryd.prog Go.Proofs.Tryd.f95.results.toList = Qv [(RV.t 4)] := by kernel_rfl
theorem f95_nt : Go.Proofs.Tryd.f95.ntmps = 19 := by kernel_rfl
theorem f95_ok : callable Go.Proofs.Tryd.prog 95 = true := by kernel_rfl
theorem f95_in {gp : Heap} {args : List V} {res : V} (h : G ⟨Go.Proofs.Tryd.prog, gp, 0, [(RV.t 4)], fun r c => r = res ∧ c = [], false⟩ [.code f95_c27, .fin] ⟨args ++ List.replicate (19 - args.length) .un, []⟩) : Does Go.Proofs.Tryd.prog gp 95 args res :=
  does_intro f95_ok Go.Proofs.Tryd.func95 f95_body f95_tr f95_rs (by rw [f95_nt]; exact h)
theorem f95_tri {gp : Heap} {args : List V} {pre : List Ch} {R : V → List Ch → Prop} (h : G ⟨Go.Proofs.Tryd.prog, gp, pre.length, [(RV.t 4)], R, false⟩ [.code f95_c27, .fin] ⟨args ++ List.replicate (19 - args.length) .un, pre⟩) : Tri Go.Proofs.Tryd.prog gp 95 args pre R :=
  tri_intro Go.Proofs.Tryd.func95 f95_body f95_tr f95_rs (by rw [f95_nt]; exact h)
def f97_r0 : List MO := [
(Qa (Qv 4) (Qd (Qo (Qp (Qq (Qr Qu 0))))))]
def f97_c0 : MC := .reg false f97_r0
def f97_r1 : List MO := [
(Qa (Qv 6) (Qd (Qn 0))),
(Qa (Qv 7) (Qk Qt (Qn 6))),
(Qa (Qv 8) (Qd (Qo (Qp (Qq (Qr Qu 0))))))]
def f97_c1 : MC := .reg false f97_r1
def f97_r2 : List MO := [
(Qa (Qv 9) (Qe Qt Go.BinOp.lss (Qn 8) (Qn 7)))]
def f97_c2 : MC := .reg false f97_r2
def f97_c3 : MC := MC.skip
def f97_c4 : MC := (MC.exit 0)
def f97_c5 : MC := .cond (Qn 9) f97_c3 f97_c4
def f97_r6 : List MO := [
(Qa (Qv 10) (Qd (Qn 8))),
(Qa (Qv 5) (Qd (Qn 10)))]
def f97_c6 : MC := .reg false f97_r6
def f97_r7 : List MO := [
(Qa (Qv 11) (Qd (Qn 1))),
(Qa (Qv 12) (Qd (Qn 0))),
(Qa (Qv 13) (Qd (Qn 5))),
(Qa (Qv 14) (Qj 1 (Qn 12) (Qn 13))),
(Qa (Qv 15) (Qf 1 false (Qn 14))),
(Qa (Qv 16) (MOp.callv (Qn 11) [(Qn 15)]))]
def f97_c7 : MC := .reg false f97_r7
def f97_r8 : List MO := [
(Qa (Qv 17) (Qd (Qn 5))),
(Qa (Qv 4) (Qd (Qn 17)))]
def f97_c8 : MC := .reg false f97_r8
def f97_c9 : MC := MC.ret
def f97_c10 : MC := .seq f97_c8 f97_c9
def f97_c11 : MC := MC.skip
def f97_c12 : MC := .cond (Qn 16) f97_c10 f97_c11
def f97_c13 : MC := .seq f97_c7 f97_c12
def f97_c14 : MC := .seq f97_c6 f97_c13
def f97_c15 : MC := .blk 1 f97_c14
def f97_r16 : List MO := [
(Qa (Qv 18) (Qe Qt Go.BinOp.add (Qn 8) (Qo (Qp (Qq (Qr Qu 1)))))),
(Qa (Qv 8) (Qd (Qn 18)))]
def f97_c16 : MC := .reg false f97_r16
def f97_c17 : MC := .seq f97_c15 f97_c16
def f97_c18 : MC := .seq f97_c5 f97_c17
def f97_c19 : MC := .seq f97_c2 f97_c18
def f97_c20 : MC := .loop f97_c19
def f97_c21 : MC := .blk 0 f97_c20
def f97_c22 : MC := .seq f97_c1 f97_c21
def f97_r23 : List MO := [
(Qa (Qv 4) (Qd (Qo (Qp (Qq (Qr Qu (-1)))))))]
def f97_c23 : MC := .reg false f97_r23
def f97_c24 : MC := MC.ret
def f97_c25 : MC := .seq f97_c23 f97_c24
def f97_c26 : MC := .seq f97_c22 f97_c25
def f97_c27 : MC := .seq f97_c0 f97_c26
noncomputable def f97_code : Code := (Go.Proofs.Tryd.f97.body).getD .skip
theorem f97_body : Go.Proofs.Tryd.f97.body = Qv f97_code := by kernel_rfl
theorem f97_tr : trC Go.Proofs.Tryd.prog [] f97_code = Qv f97_c27 := by kernel_rfl
theorem f97_rs : rsOf Go.Proofs.Tryd.prog Go.Proofs.Tryd.f97.results.toList = Qv [(RV.t 4)] := by kernel_rfl
theorem f97_nt : Go.Proofs.Tryd.f97.ntmps = 19 := by kernel_rfl
theorem f97_ok : callable Go.Proofs.Tryd.prog 97 = true := by kernel_rfl
theorem f97_in {gp : Heap} {args : List V} {res : V} (h : G ⟨Go.Proofs.Tryd.prog, gp, 0, [(RV.t 4)], fun r c => r = res ∧ c = [], false⟩ [.code f97_c27, .fin] ⟨args ++ List.replicate (19 - args.length) .un, []⟩) : Does Go.Proofs.Tryd.prog gp 97 args res :=
  does_intro f97_ok Go.Proofs.Tryd.func97 f97_body f97_tr f97_rs (by rw [f97_nt]; exact h)
theorem f97_tri {gp : Heap} {args : List V} {pre : List Ch} {R : V → List Ch → Prop} (h : G ⟨Go.Proofs.Tryd.prog, gp, pre.length, [(RV.t 4)], R, false⟩ [.code f97_c27, .fin] ⟨args ++ List.replicate (19 - args.length) .un, pre⟩) : Tri Go.Proofs.Tryd.prog gp 97 args pre R :=
  tri_intro Go.Proofs.Tryd.func97 f97_body f97_tr f97_rs (by rw [f97_nt]; exact h)
def f98_r0 : List MO := [
(Qa (Qv 4) (Qd (Qo (Qp (Qq (Qr Qu 0))))))]
def f98_c0 : MC := .reg false f98_r0
def f98_r1 : List MO := [
(Qa (Qv 6) (Qd (Qn 0))),
(Qa (Qv 7) (Qk Qt (Qn 6))),
(Qa (Qv 8) (Qd (Qo (Qp (Qq (Qr Qu 0))))))]
def f98_c1 : MC := .reg false f98_r1
def f98_r2 : List MO := [
(Qa (Qv 9) (Qe Qt Go.BinOp.lss (Qn 8) (Qn 7)))]
def f98_c2 : MC := .reg false f98_r2
def f98_c3 : MC := MC.skip
def f98_c4 : MC := (MC.exit 0)
def f98_c5 : MC := .cond (Qn 9) f98_c3 f98_c4
def f98_r6 : List MO := [
(Qa (Qv 10) (Qd (Qn 8))),
(Qa (Qv 5) (Qd (Qn 10)))]
def f98_c6 : MC := .reg false f98_r6
def f98_r7 : List MO := [
(Qa (Qv 11) (Qd (Qn 1))),
(Qa (Qv 12) (Qd (Qn 0))),
(Qa (Qv 13) (Qd (Qn 5))),
(Qa (Qv 14) (Qj 3 (Qn 12) (Qn 13))),
(Qa (Qv 15) (Qf 3 true (Qn 14))),
(Qa (Qv 16) (MOp.callv (Qn 11) [(Qn 15)]))]
def f98_c7 : MC := .reg false f98_r7
def f98_r8 : List MO := [
(Qa (Qv 17) (Qd (Qn 5))),
(Qa (Qv 4) (Qd (Qn 17)))]
def f98_c8 : MC := .reg false f98_r8
def f98_c9 : MC := MC.ret
def f98_c10 : MC := .seq f98_c8 f98_c9
def f98_c11 : MC := MC.skip
def f98_c12 : MC := .cond (Qn 16) f98_c10 f98_c11
def f98_c13 : MC := .seq f98_c7 f98_c12
def f98_c14 : MC := .seq f98_c6 f98_c13
def f98_c15 : MC := .blk 1 f98_c14
def f98_r16 : List MO := [
(Qa (Qv 18) (Qe Qt Go.BinOp.add (Qn 8) (Qo (Qp (Qq (Qr Qu 1)))))),
(Qa (Qv 8) (Qd (Qn 18)))]
def f98_c16 : MC := .reg false f98_r16
def f98_c17 : MC := .seq f98_c15 f98_c16
def f98_c18 : MC := .seq f98_c5 f98_c17
def f98_c19 : MC := .seq f98_c2 f98_c18
def f98_c20 : MC := .loop f98_c19
def f98_c21 : MC := .blk 0 f98_c20
def f98_c22 : MC := .seq f98_c1 f98_c21
def f98_r23 : List MO := [
(Qa (Qv 4) (Qd (Qo (Qp (Qq (Qr Qu (-1)))))))]
def f98_c23 : MC := .reg false f98_r23
def f98_c24 : MC := MC.ret
def f98_c25 : MC := .seq f98_c23 f98_c24
def f98_c26 : MC := .seq f98_c22 f98_c25
def f98_c27 : MC := .seq f98_c0 f98_c26
noncomputable def f98_code : Code := (Go.Proofs.Tryd.f98.body).getD .skip
theorem f98_body : Go.Proofs.Tryd.f98.body = Qv f98_code := by kernel_rfl
theorem f98_tr : trC Go.Proofs.Tryd.prog [] f98_code = Qv f98_c27 := by kernel_rfl
theorem f98_rs : rsOf Go.Proofs.Tryd.prog Go.Proofs.Tryd.f98.results.toList = Qv [(RV.t 4)] := by kernel_rfl
theorem f98_nt : Go.Proofs.Tryd.f98.ntmps = 19 := by kernel_rfl
theorem f98_ok : callable Go.Proofs.Tryd.prog 98 = true := by kernel_rfl
theorem f98_in {gp : Heap} {args : List V} {res : V} (h : G ⟨Go.Proofs.Tryd.prog, gp, 0, [(RV.t 4)], fun r c => r = res ∧ c = [], false⟩ [.code f98_c27, .fin] ⟨args ++ List.replicate (19 - args.length) .un, []⟩) : Does Go.Proofs.Tryd.prog gp 98 args res :=
  does_intro f98_ok Go.Proofs.Tryd.func98 f98_body f98_tr f98_rs (by rw [f98_nt]; exact h)
theorem f98_tri {gp : Heap} {args : List V} {pre : List Ch} {R : V → List Ch → Prop} (h : G ⟨Go.Proofs.Tryd.prog, gp, pre.length, [(RV.t 4)], R, false⟩ [.code f98_c27, .fin] ⟨args ++ List.replicate (19 - args.length) .un, pre⟩) : Tri Go.Proofs.Tryd.prog gp 98 args pre R :=
  tri_intro Go.Proofs.Tryd.func98 f98_body f98_tr f98_rs (by rw [f98_nt]; exact h)
def f99_r0 : List MO := [
(Qa (Qv 1) (MOp.ibox (Qn 0))),
(Qa (Qv 2) (Qd (Qo (Qp (Qq D.nilF)))))]
def f99_c0 : MC := .reg false f99_r0
def f99_r1 : List MO := [
(Qa (Qv 3) (MOp.mkF (Go.Fn.func 102) [(Qn 1)])),
(Qa (Qv 2) (Qd (Qn 3)))]
def f99_c1 : MC := .reg false f99_r1
def f99_c2 : MC := MC.ret
def f99_c3 : MC := .seq f99_c1 f99_c2
def f99_c4 : MC := .seq f99_c0 f99_c3
noncomputable def f99_code : Code := (Go.Proofs.Tryd.f99.body).getD .skip
theorem f99_body : Go.Proofs.Tryd.f99.body = Qv f99_code := by kernel_rfl
theorem f99_tr : trC Go.Proofs.Tryd.prog [1] f99_code = Qv f99_c4 := by kernel_rfl
theorem f99_rs : rsOf Go.Proofs.Tryd.prog Go.Proofs.Tryd.f99.results.toList = Qv [(RV.t 2)] := by kernel_rfl
theorem f99_nt : Go.Proofs.Tryd.f99.ntmps = 4 := by kernel_rfl
theorem f99_ok : callable Go.Proofs.Tryd.prog 99 = true := by kernel_rfl
theorem f99_in {gp : Heap} {args : List V} {res : V} (h : G ⟨Go.Proofs.Tryd.prog, gp, 0, [(RV.t 2)], fun r c => r = res ∧ c = [], false⟩ [.code f99_c4, .fin] ⟨args ++ List.replicate (4 - args.length) .un, []⟩) : Does Go.Proofs.Tryd.prog gp 99 args res :=
  does_intro f99_ok Go.Proofs.Tryd.func99 f99_body f99_tr f99_rs (by rw [f99_nt]; exact h)
theorem f99_tri {gp : Heap} {args : List V} {pre : List Ch} {R : V → List Ch → Prop} (h : G ⟨Go.Proofs.Tryd.prog, gp, pre.length, [(RV.t 2)], R, false⟩ [.code f99_c4, .fin] ⟨args ++ List.replicate (4 - args.length) .un, pre⟩) : Tri Go.Proofs.Tryd.prog gp 99 args pre R :=
  tri_intro Go.Proofs.Tryd.func99 f99_body f99_tr f99_rs (by rw [f99_nt]; exact h)
def f102_r0 : List MO := [
(Qa (Qv 6) MOp.mkM),
(Qa (Qv 3) (Qd (Qn 6)))]
def f102_c0 : MC := .reg false f102_r0
def f102_c1 : MC := MC.skip
def f102_r2 : List MO := [
(Qa (Qv 7) (Qf 1 false (Qn 1))),
(Qa (Qv 8) (Qk Qt (Qn 7))),
(Qa (Qv 9) (Qd (Qo (Qp (Qq (Qr Qu 0))))))]
def f102_c2 : MC := .reg false f102_r2
def f102_r3 : List MO := [
(Qa (Qv 10) (Qe Qt Go.BinOp.lss (Qn 9) (Qn 8)))]
def f102_c3 : MC := .reg false f102_r3
def f102_c4 : MC := MC.skip
def f102_c5 : MC := (MC.exit 0)
def f102_c6 : MC := .cond (Qn 10) f102_c4 f102_c5
def f102_r7 : List MO := [
(Qa (Qv 11) (Qj 3 (Qn 7) (Qn 9))),
(Qa (Qv 12) (Qf 3 true (Qn 11))),
(Qa (Qv 5) (MOp.alloc [(Qr Qu 0), (Qr Qu 0), (D.str (ByteArray.mk #[]))])),
(Qa none (Ql 3 (Qn 5) (Qn 12)))]
def f102_c7 : MC := .reg false f102_r7
def f102_r8 : List MO := [
(Qa (Qv 13) (Qd (Qn 3))),
(Qa (Qv 14) (Qf 3 true (Qn 5))),
(Qa (Qv 15) (MOp.lkp false (Qp (Qq (Qs false))) true [Qt, Qt, Leaf.s] (Qn 13) (Qn 14))),
(Qa (Qv 16) (Qd (Qn 15))),
(Qb 16 false (Qv 17)),
(Qa (Qv 17) (Qd (Qn 0))),
(Qb 16 false (Qv 18)),
(Qa (Qv 18) (Qf 3 true (Qn 5))),
(Qb 16 false (Qv 19)),
(Qa (Qv 19) (MOp.callv (Qn 17) [(Qn 18)])),
(Qb 16 false (Qv 20)),
(Qa (Qv 20) (MOp.not (Qn 19))),
(Qa (Qv 21) (Qm (Qn 16) (Qo (Qp (Qq (Qs true)))) (Qn 20)))]
def f102_c8 : MC := .reg false f102_r8
def f102_c9 : MC := (MC.exit 0)
def f102_c10 : MC := MC.skip
def f102_c11 : MC := .cond (Qn 21) f102_c9 f102_c10
def f102_c12 : MC := .seq f102_c8 f102_c11
def f102_r13 : List MO := [
(Qa (Qv 22) (Qd (Qn 3))),
(Qa (Qv 23) (Qf 3 true (Qn 5))),
(Qa none (MOp.mupd true [Qt, Qt, Leaf.s] (Qn 22) (Qn 23) (Qo (Qp (Qq (Qs true))))))]
def f102_c13 : MC := .reg false f102_r13
def f102_c14 : MC := .seq f102_c12 f102_c13
def f102_c15 : MC := .seq f102_c7 f102_c14
def f102_c16 : MC := .blk 1 f102_c15
def f102_r17 : List MO := [
(Qa (Qv 24) (Qe Qt Go.BinOp.add (Qn 9) (Qo (Qp (Qq (Qr Qu 1)))))),
(Qa (Qv 9) (Qd (Qn 24)))]
def f102_c17 : MC := .reg false f102_r17
def f102_c18 : MC := .seq f102_c16 f102_c17
def f102_c19 : MC := .seq f102_c6 f102_c18
def f102_c20 : MC := .seq f102_c3 f102_c19
def f102_c21 : MC := .loop f102_c20
def f102_c22 : MC := .blk 0 f102_c21
def f102_c23 : MC := .seq f102_c2 f102_c22
def f102_c24 : MC := .seq f102_c1 f102_c23
def f102_c25 : MC := .seq f102_c0 f102_c24
def f102_c26 : MC := .scope f102_c25
noncomputable def f102_code : Code := (Go.Proofs.Tryd.f102.body).getD .skip
theorem f102_body : Go.Proofs.Tryd.f102.body = Qv f102_code := by kernel_rfl
theorem f102_tr : trC Go.Proofs.Tryd.prog [] f102_code = Qv f102_c26 := by kernel_rfl
theorem f102_rs : rsOf Go.Proofs.Tryd.prog Go.Proofs.Tryd.f102.results.toList = Qv [] := by kernel_rfl
theorem f102_nt : Go.Proofs.Tryd.f102.ntmps = 25 := by kernel_rfl
theorem f102_ok : callable Go.Proofs.Tryd.prog 102 = true := by kernel_rfl
theorem f102_in {gp : Heap} {args : List V} {res : V} (h : G ⟨Go.Proofs.Tryd.prog, gp, 0, [], fun r c => r = res ∧ c = [], false⟩ [.code f102_c26, .fin] ⟨args ++ List.replicate (25 - args.length) .un, []⟩) : Does Go.Proofs.Tryd.prog gp 102 args res :=
  does_intro f102_ok Go.Proofs.Tryd.func102 f102_body f102_tr f102_rs (by rw [f102_nt]; exact h)
theorem f102_tri {gp : Heap} {args : List V} {pre : List Ch} {R : V → List Ch → Prop} (h : G ⟨Go.Proofs.Tryd.prog, gp, pre.length, [], R, false⟩ [.code f102_c26, .fin] ⟨args ++ List.replicate (25 - args.length) .un, pre⟩) : Tri Go.Proofs.Tryd.prog gp 102 args pre R :=
  tri_intro Go.Proofs.Tryd.func102 f102_body f102_tr f102_rs (by rw [f102_nt]; exact h)
end Go.Fw.L07
