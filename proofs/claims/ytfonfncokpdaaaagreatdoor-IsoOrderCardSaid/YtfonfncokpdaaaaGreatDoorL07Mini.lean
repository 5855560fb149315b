/- Small codes. -/
import Derived.Test.YtfonfncokpdaaaaGreatDoorFd
import Derived.Test.YtfonfncokpdaaaaGreatDoorProg
set_option linter.all false
namespace Go.Fw.L07
open Go Go.Fw
open Go.Fw.MO renaming op → Qa, chk → Qb, opx → Qc
open Go.Fw.MOp renaming mv → Qd, bin → Qe, load → Qf, fad → Qg, call → Qh, ext → Qi, iad → Qj, len → Qk, store → Ql, pick → Qm
open Go.Fw.Opd renaming t → Qn, c → Qo
open Go.Fw.V renaming one → Qp
open Go.Fw.A renaming d → Qq
open Go.Fw.D renaming int → Qr, bool → Qs
open Go.Fw.Leaf renaming i → Qt
open Go.IntKind renaming i64 → Qu
open Option renaming some → Qv
def f25_r0 : List MO := [
(Qa (Qv 1) (MOp.ibox (Qn 0))),
(Qa (Qv 2) (MOp.alloc [(Qr Qu 0), (D.sl [])]))]
def f25_c0 : MC := .reg false f25_r0
def f25_r1 : List MO := [
(Qa (Qv 9) (Qg 0 (Qn 1))),
(Qa (Qv 10) (Qf 1 false (Qn 9))),
(Qa (Qv 11) (MOp.build [(Qr Qu 0), (D.sl [])] [(0, (1, (Qn 10)))])),
(Qa (Qv 3) (MOp.alloc [(Qr Qu 0), (D.sl [])])),
(Qa none (Ql 2 (Qn 3) (Qn 11)))]
def f25_c1 : MC := .reg false f25_r1
def f25_r2 : List MO := [
(Qa (Qv 4) (Qd (Qo (Qp (Qq (Qr Qu 0))))))]
def f25_c2 : MC := .reg false f25_r2
def f25_r3 : List MO := [
(Qa (Qv 12) (Qd (Qn 4))),
(Qa (Qv 13) (Qg 1 (Qn 1))),
(Qa (Qv 14) (Qf 1 false (Qn 13))),
(Qa (Qv 15) (Qk Qt (Qn 14))),
(Qa (Qv 16) (Qe Qt Go.BinOp.lss (Qn 12) (Qn 15))),
(Qa (Qv 17) (Qd (Qn 16))),
(Qb 17 true (Qv 18)),
(Qa (Qv 18) (Qd (Qn 4))),
(Qb 17 true (Qv 19)),
(Qa (Qv 19) (Qe Qt Go.BinOp.lss (Qn 18) (Qo (Qp (Qq (Qr Qu 201)))))),
(Qa (Qv 20) (Qm (Qn 17) (Qn 19) (Qo (Qp (Qq (Qs false))))))]
def f25_c3 : MC := .reg false f25_r3
def f25_c4 : MC := MC.skip
def f25_c5 : MC := (MC.exit 0)
def f25_c6 : MC := .cond (Qn 20) f25_c4 f25_c5
def f25_c7 : MC := .seq f25_c3 f25_c6
def f25_r8 : List MO := [
(Qa (Qv 23) (Qg 1 (Qn 1))),
(Qa (Qv 24) (Qf 1 false (Qn 23))),
(Qa (Qv 25) (Qd (Qn 4))),
(Qa (Qv 26) (Qj 6 (Qn 24) (Qn 25))),
(Qa (Qv 27) (Qf 6 true (Qn 26))),
(Qa (Qv 5) (MOp.alloc [(Qr Qu 0), (Qr Qu 0), (Qr Qu 0), (D.str (ByteArray.mk #[])), (D.sl []), (D.sl [])])),
(Qa none (Ql 6 (Qn 5) (Qn 27)))]
def f25_c8 : MC := .reg false f25_r8
def f25_r9 : List MO := [
(Qa (Qv 28) (Qg 0 (Qn 5))),
(Qa (Qv 29) (Qf 1 false (Qn 28))),
(Qa (Qv 30) (Qg 1 (Qn 5))),
(Qa (Qv 31) (Qf 3 true (Qn 30))),
(Qa (Qv 32) (Qh 45 [(Qn 31)])),
(Qa (Qv 33) (MOp.build [(Qr Qu 0), (Qr Qu 0), (Qr Qu 0), (D.str (ByteArray.mk #[])), (D.sl []), (D.sl [])] [(0, (1, (Qn 29))), (1, (3, (Qn 32)))])),
(Qa (Qv 6) (MOp.alloc [(Qr Qu 0), (Qr Qu 0), (Qr Qu 0), (D.str (ByteArray.mk #[])), (D.sl []), (D.sl [])])),
(Qa none (Ql 6 (Qn 6) (Qn 33)))]
def f25_c9 : MC := .reg true f25_r9
def f25_r10 : List MO := [
(Qa (Qv 7) (Qd (Qo (Qp (Qq (Qr Qu 0))))))]
def f25_c10 : MC := .reg false f25_r10
def f25_r11 : List MO := [
(Qa (Qv 34) (Qd (Qn 7))),
(Qa (Qv 35) (Qg 4 (Qn 5))),
(Qa (Qv 36) (Qf 1 false (Qn 35))),
(Qa (Qv 37) (Qk Qt (Qn 36))),
(Qa (Qv 38) (Qe Qt Go.BinOp.lss (Qn 34) (Qn 37))),
(Qa (Qv 39) (Qd (Qn 38))),
(Qb 39 true (Qv 40)),
(Qa (Qv 40) (Qd (Qn 7))),
(Qb 39 true (Qv 41)),
(Qa (Qv 41) (Qe Qt Go.BinOp.lss (Qn 40) (Qo (Qp (Qq (Qr Qu 12)))))),
(Qa (Qv 42) (Qm (Qn 39) (Qn 41) (Qo (Qp (Qq (Qs false))))))]
def f25_c11 : MC := .reg false f25_r11
def f25_c12 : MC := MC.skip
def f25_c13 : MC := (MC.exit 2)
def f25_c14 : MC := .cond (Qn 42) f25_c12 f25_c13
def f25_c15 : MC := .seq f25_c11 f25_c14
def f25_r16 : List MO := [
(Qa (Qv 45) (Qg 4 (Qn 6))),
(Qa (Qv 46) (Qf 1 false (Qn 45))),
(Qa (Qv 47) (Qg 4 (Qn 5))),
(Qa (Qv 48) (Qf 1 false (Qn 47))),
(Qa (Qv 49) (Qd (Qn 7))),
(Qa (Qv 50) (Qj 3 (Qn 48) (Qn 49))),
(Qa (Qv 51) (Qf 3 true (Qn 50))),
(Qa (Qv 52) (Qh 45 [(Qn 51)])),
(Qa (Qv 53) (MOp.bslice 3 [(Qr Qu 0), (Qr Qu 0), (D.str (ByteArray.mk #[]))] 1 [(0, (Qn 52))])),
(Qa (Qv 54) (MOp.app 3 32 (Qn 46) (Qn 53))),
(Qa (Qv 55) (Qg 4 (Qn 6))),
(Qa none (Ql 1 (Qn 55) (Qn 54)))]
def f25_c16 : MC := .reg true f25_r16
def f25_c17 : MC := .blk 3 f25_c16
def f25_r18 : List MO := [
(Qa (Qv 43) (Qd (Qn 7))),
(Qa (Qv 44) (Qe Qt Go.BinOp.add (Qn 43) (Qo (Qp (Qq (Qr Qu 1)))))),
(Qa (Qv 7) (Qd (Qn 44)))]
def f25_c18 : MC := .reg false f25_r18
def f25_c19 : MC := .seq f25_c17 f25_c18
def f25_c20 : MC := .seq f25_c15 f25_c19
def f25_c21 : MC := .loop f25_c20
def f25_c22 : MC := .blk 2 f25_c21
def f25_c23 : MC := .seq f25_c10 f25_c22
def f25_r24 : List MO := [
(Qa (Qv 8) (Qd (Qo (Qp (Qq (Qr Qu 0))))))]
def f25_c24 : MC := .reg false f25_r24
def f25_r25 : List MO := [
(Qa (Qv 56) (Qd (Qn 8))),
(Qa (Qv 57) (Qg 5 (Qn 5))),
(Qa (Qv 58) (Qf 1 false (Qn 57))),
(Qa (Qv 59) (Qk Qt (Qn 58))),
(Qa (Qv 60) (Qe Qt Go.BinOp.lss (Qn 56) (Qn 59))),
(Qa (Qv 61) (Qd (Qn 60))),
(Qb 61 true (Qv 62)),
(Qa (Qv 62) (Qd (Qn 8))),
(Qb 61 true (Qv 63)),
(Qa (Qv 63) (Qe Qt Go.BinOp.lss (Qn 62) (Qo (Qp (Qq (Qr Qu 12)))))),
(Qa (Qv 64) (Qm (Qn 61) (Qn 63) (Qo (Qp (Qq (Qs false))))))]
def f25_c25 : MC := .reg false f25_r25
def f25_c26 : MC := MC.skip
def f25_c27 : MC := (MC.exit 4)
def f25_c28 : MC := .cond (Qn 64) f25_c26 f25_c27
def f25_c29 : MC := .seq f25_c25 f25_c28
def f25_r30 : List MO := [
(Qa (Qv 67) (Qg 5 (Qn 6))),
(Qa (Qv 68) (Qf 1 false (Qn 67))),
(Qa (Qv 69) (Qg 5 (Qn 5))),
(Qa (Qv 70) (Qf 1 false (Qn 69))),
(Qa (Qv 71) (Qd (Qn 8))),
(Qa (Qv 72) (Qj 1 (Qn 70) (Qn 71))),
(Qa (Qv 73) (Qf 1 false (Qn 72))),
(Qa (Qv 74) (MOp.bslice 1 [(Qr Qu 0)] 1 [(0, (Qn 73))])),
(Qa (Qv 75) (MOp.app 1 8 (Qn 68) (Qn 74))),
(Qa (Qv 76) (Qg 5 (Qn 6))),
(Qa none (Ql 1 (Qn 76) (Qn 75)))]
def f25_c30 : MC := .reg true f25_r30
def f25_c31 : MC := .blk 5 f25_c30
def f25_r32 : List MO := [
(Qa (Qv 65) (Qd (Qn 8))),
(Qa (Qv 66) (Qe Qt Go.BinOp.add (Qn 65) (Qo (Qp (Qq (Qr Qu 1)))))),
(Qa (Qv 8) (Qd (Qn 66)))]
def f25_c32 : MC := .reg false f25_r32
def f25_c33 : MC := .seq f25_c31 f25_c32
def f25_c34 : MC := .seq f25_c29 f25_c33
def f25_c35 : MC := .loop f25_c34
def f25_c36 : MC := .blk 4 f25_c35
def f25_c37 : MC := .seq f25_c24 f25_c36
def f25_r38 : List MO := [
(Qa (Qv 77) (Qg 1 (Qn 3))),
(Qa (Qv 78) (Qf 1 false (Qn 77))),
(Qa (Qv 79) (Qf 6 true (Qn 6))),
(Qa (Qv 80) (MOp.bslice 6 [(Qr Qu 0), (Qr Qu 0), (Qr Qu 0), (D.str (ByteArray.mk #[])), (D.sl []), (D.sl [])] 1 [(0, (Qn 79))])),
(Qa (Qv 81) (MOp.app 6 88 (Qn 78) (Qn 80))),
(Qa (Qv 82) (Qg 1 (Qn 3))),
(Qa none (Ql 1 (Qn 82) (Qn 81)))]
def f25_c38 : MC := .reg false f25_r38
def f25_c39 : MC := .seq f25_c37 f25_c38
def f25_c40 : MC := .seq f25_c23 f25_c39
def f25_c41 : MC := .seq f25_c9 f25_c40
def f25_c42 : MC := .seq f25_c8 f25_c41
def f25_c43 : MC := .blk 1 f25_c42
def f25_r44 : List MO := [
(Qa (Qv 21) (Qd (Qn 4))),
(Qa (Qv 22) (Qe Qt Go.BinOp.add (Qn 21) (Qo (Qp (Qq (Qr Qu 1)))))),
(Qa (Qv 4) (Qd (Qn 22)))]
def f25_c44 : MC := .reg false f25_r44
def f25_c45 : MC := .seq f25_c43 f25_c44
def f25_c46 : MC := .seq f25_c7 f25_c45
def f25_c47 : MC := .loop f25_c46
def f25_c48 : MC := .blk 0 f25_c47
def f25_c49 : MC := .seq f25_c2 f25_c48
def f25_r50 : List MO := [
(Qa (Qv 83) (Qf 2 true (Qn 3))),
(Qa none (Ql 2 (Qn 2) (Qn 83)))]
def f25_c50 : MC := .reg false f25_r50
def f25_c51 : MC := MC.ret
def f25_c52 : MC := .seq f25_c50 f25_c51
def f25_c53 : MC := .seq f25_c49 f25_c52
def f25_c54 : MC := .seq f25_c1 f25_c53
def f25_c55 : MC := .seq f25_c0 f25_c54
noncomputable def f25_code : Code := (Go.Proofs.Tryz.f25.body).getD .skip
theorem f25_body : Go.Proofs.Tryz.f25.body = Qv f25_code := by kernel_rfl
theorem f25_tr : trC Go.Proofs.Tryz.prog [1] f25_code = Qv f25_c55 := by kernel_rfl
theorem f25_rs : rsOf Go.Proofs.Tryz.prog Go.Proofs.Tryz.f25.results.toList = Qv [(RV.cell 2 2 true)] := by kernel_rfl
theorem f25_nt : Go.Proofs.Tryz.f25.ntmps = 84 := by kernel_rfl
theorem f25_ok : callable Go.Proofs.Tryz.prog 25 = true := by kernel_rfl
theorem f25_in {gp : Heap} {args : List V} {res : V} (h : G ⟨Go.Proofs.Tryz.prog, gp, 0, [(RV.cell 2 2 true)], fun r c => r = res ∧ c = [], false⟩ [.code f25_c55, .fin] ⟨args ++ List.replicate (84 - args.length) .un, []⟩) : Does Go.Proofs.Tryz.prog gp 25 args res :=
  does_intro f25_ok Go.Proofs.Tryz.func25 f25_body f25_tr f25_rs (by rw [f25_nt]; exact h)
theorem f25_tri {gp : Heap} {args : List V} {pre : List Ch} {R : V → List Ch → Prop} (h : G ⟨Go.Proofs.Tryz.prog, gp, pre.length, [(RV.cell 2 2 true)], R, false⟩ [.code f25_c55, .fin] ⟨args ++ List.replicate (84 - args.length) .un, pre⟩) : Tri Go.Proofs.Tryz.prog gp 25 args pre R :=
  tri_intro Go.Proofs.Tryz.func25 f25_body f25_tr f25_rs (by rw [f25_nt]; exact h)
def f33_r0 : List MO := [
(Qa (Qv 1) (MOp.ibox (Qn 0))),
(Qa (Qv 2) (Qd (Qo (Qp (Qq (Qr Qu 0)))))),
(Qa (Qv 3) (Qd (Qo (Qp (Qq (Qr Qu 0))))))]
def f33_c0 : MC := .reg false f33_r0
def f33_r1 : List MO := [
(Qa (Qv 4) (Qf 2 true (Qn 1))),
(Qa (Qv 5) (Qh 51 [(Qn 4)])),
(Qa (Qv 6) (Qh 50 [(Qn 5)])),
(Qa (Qv 7) (Qi (Qn 6) 0)),
(Qa (Qv 8) (Qi (Qn 6) 1)),
(Qa (Qv 2) (Qd (Qn 7))),
(Qa (Qv 3) (Qd (Qn 8)))]
def f33_c1 : MC := .reg false f33_r1
def f33_c2 : MC := MC.ret
def f33_c3 : MC := .seq f33_c1 f33_c2
def f33_c4 : MC := .seq f33_c0 f33_c3
noncomputable def f33_code : Code := (Go.Proofs.Tryz.f33.body).getD .skip
theorem f33_body : Go.Proofs.Tryz.f33.body = Qv f33_code := by kernel_rfl
theorem f33_tr : trC Go.Proofs.Tryz.prog [1] f33_code = Qv f33_c4 := by kernel_rfl
theorem f33_rs : rsOf Go.Proofs.Tryz.prog Go.Proofs.Tryz.f33.results.toList = Qv [(RV.t 2), (RV.t 3)] := by kernel_rfl
theorem f33_nt : Go.Proofs.Tryz.f33.ntmps = 9 := by kernel_rfl
theorem f33_ok : callable Go.Proofs.Tryz.prog 33 = true := by kernel_rfl
theorem f33_in {gp : Heap} {args : List V} {res : V} (h : G ⟨Go.Proofs.Tryz.prog, gp, 0, [(RV.t 2), (RV.t 3)], fun r c => r = res ∧ c = [], false⟩ [.code f33_c4, .fin] ⟨args ++ List.replicate (9 - args.length) .un, []⟩) : Does Go.Proofs.Tryz.prog gp 33 args res :=
  does_intro f33_ok Go.Proofs.Tryz.func33 f33_body f33_tr f33_rs (by rw [f33_nt]; exact h)
theorem f33_tri {gp : Heap} {args : List V} {pre : List Ch} {R : V → List Ch → Prop} (h : G ⟨Go.Proofs.Tryz.prog, gp, pre.length, [(RV.t 2), (RV.t 3)], R, false⟩ [.code f33_c4, .fin] ⟨args ++ List.replicate (9 - args.length) .un, pre⟩) : Tri Go.Proofs.Tryz.prog gp 33 args pre R :=
  tri_intro Go.Proofs.Tryz.func33 f33_body f33_tr f33_rs (by rw [f33_nt]; exact h)
def f34_r0 : List MO := [
(Qa (Qv 2) (MOp.ibox (Qn 0))),
(Qa (Qv 4) (Qd (Qo (Qp A.nil)))),
(Qa (Qv 5) (Qd (Qo (Qp (Qq (Qr Qu 0))))))]
def f34_c0 : MC := .reg false f34_r0
def f34_r1 : List MO := [
(Qa (Qv 12) (Qf 2 true (Qn 2))),
(Qa (Qv 13) (Qd (Qn 1))),
(Qa (Qv 14) (Qh 52 [(Qn 12), (Qn 13)])),
(Qa (Qv 11) (Qd (Qn 14))),
(Qa (Qv 15) (Qi (Qn 11) 0)),
(Qa (Qv 16) (Qi (Qn 11) 1)),
(Qa (Qv 6) (MOp.alloc [(Qr Qu 0), (Qr Qu 0), (Qr Qu 0), (D.str (ByteArray.mk #[])), (D.sl []), (D.sl []), (Qr Qu 0)])),
(Qa none (Ql 7 (Qn 6) (Qn 15))),
(Qa (Qv 7) (Qd (Qn 16)))]
def f34_c1 : MC := .reg false f34_r1
def f34_r2 : List MO := [
(Qa (Qv 17) (Qd (Qn 7))),
(Qa (Qv 18) (Qe Qt Go.BinOp.eql (Qn 17) (Qo (Qp (Qq (Qr Qu 0)))))),
(Qa (Qv 19) (Qd (Qn 18))),
(Qb 19 true (Qv 20)),
(Qa (Qv 20) (Qg 0 (Qn 6))),
(Qb 19 true (Qv 21)),
(Qa (Qv 21) (Qg 0 (Qn 20))),
(Qb 19 true (Qv 22)),
(Qa (Qv 22) (Qf 1 false (Qn 21))),
(Qb 19 true (Qv 23)),
(Qa (Qv 23) (Qe Qt Go.BinOp.eql (Qn 22) (Qo (Qp (Qq (Qr Qu 1)))))),
(Qa (Qv 24) (Qm (Qn 19) (Qn 23) (Qo (Qp (Qq (Qs false))))))]
def f34_c2 : MC := .reg false f34_r2
def f34_r3 : List MO := [
(Qa (Qv 25) (Qg 0 (Qn 6))),
(Qa (Qv 26) (Qg 5 (Qn 25))),
(Qa (Qv 27) (Qf 1 false (Qn 26))),
(Qa (Qv 28) (Qh 53 [(Qn 27)])),
(Qa (Qv 29) (Qd (Qn 7))),
(Qa (Qv 4) (Qd (Qn 28))),
(Qa (Qv 5) (Qd (Qn 29)))]
def f34_c3 : MC := .reg false f34_r3
def f34_c4 : MC := MC.ret
def f34_c5 : MC := .seq f34_c3 f34_c4
def f34_c6 : MC := MC.skip
def f34_c7 : MC := .cond (Qn 24) f34_c5 f34_c6
def f34_c8 : MC := .seq f34_c2 f34_c7
def f34_r9 : List MO := [
(Qa (Qv 8) (Qd (Qo (Qp A.nil))))]
def f34_c9 : MC := .reg false f34_r9
def f34_r10 : List MO := [
(Qa (Qv 30) (Qf 7 true (Qn 6))),
(Qa (Qv 31) (Qh 54 [(Qn 30)])),
(Qa (Qv 32) (Qk Qt (Qn 31))),
(Qa (Qv 33) (Qd (Qo (Qp (Qq (Qr Qu 0))))))]
def f34_c10 : MC := .reg false f34_r10
def f34_r11 : List MO := [
(Qa (Qv 34) (Qe Qt Go.BinOp.lss (Qn 33) (Qn 32)))]
def f34_c11 : MC := .reg false f34_r11
def f34_c12 : MC := MC.skip
def f34_c13 : MC := (MC.exit 0)
def f34_c14 : MC := .cond (Qn 34) f34_c12 f34_c13
def f34_r15 : List MO := [
(Qa (Qv 35) (Qj 4 (Qn 31) (Qn 33))),
(Qa (Qv 36) (Qf 4 true (Qn 35))),
(Qa (Qv 10) (MOp.alloc [(Qr Qu 0), (Qr Qu 0), (D.str (ByteArray.mk #[])), (Qr Qu 0)])),
(Qa none (Ql 4 (Qn 10) (Qn 36)))]
def f34_c15 : MC := .reg false f34_r15
def f34_r16 : List MO := [
(Qa (Qv 37) (Qd (Qn 8))),
(Qa (Qv 38) (Qg 3 (Qn 10))),
(Qa (Qv 39) (Qf 1 false (Qn 38))),
(Qa (Qv 40) (MOp.bslice 1 [(Qr Qu 0)] 1 [(0, (Qn 39))])),
(Qa (Qv 41) (MOp.app 1 8 (Qn 37) (Qn 40))),
(Qa (Qv 8) (Qd (Qn 41)))]
def f34_c16 : MC := .reg false f34_r16
def f34_c17 : MC := .seq f34_c15 f34_c16
def f34_c18 : MC := .blk 1 f34_c17
def f34_r19 : List MO := [
(Qa (Qv 42) (Qe Qt Go.BinOp.add (Qn 33) (Qo (Qp (Qq (Qr Qu 1)))))),
(Qa (Qv 33) (Qd (Qn 42)))]
def f34_c19 : MC := .reg false f34_r19
def f34_c20 : MC := .seq f34_c18 f34_c19
def f34_c21 : MC := .seq f34_c14 f34_c20
def f34_c22 : MC := .seq f34_c11 f34_c21
def f34_c23 : MC := .loop f34_c22
def f34_c24 : MC := .blk 0 f34_c23
def f34_c25 : MC := .seq f34_c10 f34_c24
def f34_r26 : List MO := [
(Qa (Qv 43) (Qd (Qn 8))),
(Qa (Qv 44) (Qd (Qn 7))),
(Qa (Qv 4) (Qd (Qn 43))),
(Qa (Qv 5) (Qd (Qn 44)))]
def f34_c26 : MC := .reg false f34_r26
def f34_c27 : MC := MC.ret
def f34_c28 : MC := .seq f34_c26 f34_c27
def f34_c29 : MC := .seq f34_c25 f34_c28
def f34_c30 : MC := .seq f34_c9 f34_c29
def f34_c31 : MC := .seq f34_c8 f34_c30
def f34_c32 : MC := .seq f34_c1 f34_c31
def f34_c33 : MC := .seq f34_c0 f34_c32
noncomputable def f34_code : Code := (Go.Proofs.Tryz.f34.body).getD .skip
theorem f34_body : Go.Proofs.Tryz.f34.body = Qv f34_code := by kernel_rfl
theorem f34_tr : trC Go.Proofs.Tryz.prog [2] f34_code = Qv f34_c33 := by kernel_rfl
theorem f34_rs : rsOf Go.Proofs.Tryz.prog Go.Proofs.Tryz.f34.results.toList = Qv [(RV.t 4), (RV.t 5)] := by kernel_rfl
theorem f34_nt : Go.Proofs.Tryz.f34.ntmps = 45 := by kernel_rfl
theorem f34_ok : callable Go.Proofs.Tryz.prog 34 = true := by kernel_rfl
theorem f34_in {gp : Heap} {args : List V} {res : V} (h : G ⟨Go.Proofs.Tryz.prog, gp, 0, [(RV.t 4), (RV.t 5)], fun r c => r = res ∧ c = [], false⟩ [.code f34_c33, .fin] ⟨args ++ List.replicate (45 - args.length) .un, []⟩) : Does Go.Proofs.Tryz.prog gp 34 args res :=
  does_intro f34_ok Go.Proofs.Tryz.func34 f34_body f34_tr f34_rs (by rw [f34_nt]; exact h)
theorem f34_tri {gp : Heap} {args : List V} {pre : List Ch} {R : V → List Ch → Prop} (h : G ⟨Go.Proofs.Tryz.prog, gp, pre.length, [(RV.t 4), (RV.t 5)], R, false⟩ [.code f34_c33, .fin] ⟨args ++ List.replicate (45 - args.length) .un, pre⟩) : Tri Go.Proofs.Tryz.prog gp 34 args pre R :=
  tri_intro Go.Proofs.Tryz.func34 f34_body f34_tr f34_rs (by rw [f34_nt]; exact h)
def f39_r0 : List MO := [
(Qa (Qv 2) (MOp.ibox (Qn 0))),
(Qa (Qv 4) (Qd (Qo (Qp A.nil)))),
(Qa (Qv 5) (Qd (Qo (Qp (Qq (Qr Qu 0))))))]
def f39_c0 : MC := .reg false f39_r0
def f39_r1 : List MO := [
(Qa (Qv 12) (Qf 2 true (Qn 2))),
(Qa (Qv 13) (Qd (Qn 1))),
(Qa (Qv 14) (Qh 52 [(Qn 12), (Qn 13)])),
(Qa (Qv 11) (Qd (Qn 14))),
(Qa (Qv 15) (Qi (Qn 11) 0)),
(Qa (Qv 16) (Qi (Qn 11) 1)),
(Qa (Qv 6) (MOp.alloc [(Qr Qu 0), (Qr Qu 0), (Qr Qu 0), (D.str (ByteArray.mk #[])), (D.sl []), (D.sl []), (Qr Qu 0)])),
(Qa none (Ql 7 (Qn 6) (Qn 15))),
(Qa (Qv 7) (Qd (Qn 16)))]
def f39_c1 : MC := .reg false f39_r1
def f39_r2 : List MO := [
(Qa (Qv 8) (Qd (Qo (Qp A.nil))))]
def f39_c2 : MC := .reg false f39_r2
def f39_r3 : List MO := [
(Qa (Qv 17) (Qf 7 true (Qn 6))),
(Qa (Qv 18) (Qh 54 [(Qn 17)])),
(Qa (Qv 19) (Qk Qt (Qn 18))),
(Qa (Qv 20) (Qd (Qo (Qp (Qq (Qr Qu 0))))))]
def f39_c3 : MC := .reg false f39_r3
def f39_r4 : List MO := [
(Qa (Qv 21) (Qe Qt Go.BinOp.lss (Qn 20) (Qn 19)))]
def f39_c4 : MC := .reg false f39_r4
def f39_c5 : MC := MC.skip
def f39_c6 : MC := (MC.exit 0)
def f39_c7 : MC := .cond (Qn 21) f39_c5 f39_c6
def f39_r8 : List MO := [
(Qa (Qv 22) (Qj 4 (Qn 18) (Qn 20))),
(Qa (Qv 23) (Qf 4 true (Qn 22))),
(Qa (Qv 10) (MOp.alloc [(Qr Qu 0), (Qr Qu 0), (D.str (ByteArray.mk #[])), (Qr Qu 0)])),
(Qa none (Ql 4 (Qn 10) (Qn 23)))]
def f39_c8 : MC := .reg false f39_r8
def f39_r9 : List MO := [
(Qa (Qv 24) (Qd (Qn 8))),
(Qa (Qv 25) (Qg 0 (Qn 10))),
(Qa (Qv 26) (Qf 3 true (Qn 25))),
(Qa (Qv 27) (MOp.bslice 3 [(Qr Qu 0), (Qr Qu 0), (D.str (ByteArray.mk #[]))] 1 [(0, (Qn 26))])),
(Qa (Qv 28) (MOp.app 3 32 (Qn 24) (Qn 27))),
(Qa (Qv 8) (Qd (Qn 28)))]
def f39_c9 : MC := .reg false f39_r9
def f39_c10 : MC := .seq f39_c8 f39_c9
def f39_c11 : MC := .blk 1 f39_c10
def f39_r12 : List MO := [
(Qa (Qv 29) (Qe Qt Go.BinOp.add (Qn 20) (Qo (Qp (Qq (Qr Qu 1)))))),
(Qa (Qv 20) (Qd (Qn 29)))]
def f39_c12 : MC := .reg false f39_r12
def f39_c13 : MC := .seq f39_c11 f39_c12
def f39_c14 : MC := .seq f39_c7 f39_c13
def f39_c15 : MC := .seq f39_c4 f39_c14
def f39_c16 : MC := .loop f39_c15
def f39_c17 : MC := .blk 0 f39_c16
def f39_c18 : MC := .seq f39_c3 f39_c17
def f39_r19 : List MO := [
(Qa (Qv 30) (Qd (Qn 8))),
(Qa (Qv 31) (Qd (Qn 7))),
(Qa (Qv 4) (Qd (Qn 30))),
(Qa (Qv 5) (Qd (Qn 31)))]
def f39_c19 : MC := .reg false f39_r19
def f39_c20 : MC := MC.ret
def f39_c21 : MC := .seq f39_c19 f39_c20
def f39_c22 : MC := .seq f39_c18 f39_c21
def f39_c23 : MC := .seq f39_c2 f39_c22
def f39_c24 : MC := .seq f39_c1 f39_c23
def f39_c25 : MC := .seq f39_c0 f39_c24
noncomputable def f39_code : Code := (Go.Proofs.Tryz.f39.body).getD .skip
theorem f39_body : Go.Proofs.Tryz.f39.body = Qv f39_code := by kernel_rfl
theorem f39_tr : trC Go.Proofs.Tryz.prog [2] f39_code = Qv f39_c25 := by kernel_rfl
theorem f39_rs : rsOf Go.Proofs.Tryz.prog Go.Proofs.Tryz.f39.results.toList = Qv [(RV.t 4), (RV.t 5)] := by kernel_rfl
theorem f39_nt : Go.Proofs.Tryz.f39.ntmps = 32 := by kernel_rfl
theorem f39_ok : callable Go.Proofs.Tryz.prog 39 = true := by kernel_rfl
theorem f39_in {gp : Heap} {args : List V} {res : V} (h : G ⟨Go.Proofs.Tryz.prog, gp, 0, [(RV.t 4), (RV.t 5)], fun r c => r = res ∧ c = [], false⟩ [.code f39_c25, .fin] ⟨args ++ List.replicate (32 - args.length) .un, []⟩) : Does Go.Proofs.Tryz.prog gp 39 args res :=
  does_intro f39_ok Go.Proofs.Tryz.func39 f39_body f39_tr f39_rs (by rw [f39_nt]; exact h)
theorem f39_tri {gp : Heap} {args : List V} {pre : List Ch} {R : V → List Ch → Prop} (h : G ⟨Go.Proofs.Tryz.prog, gp, pre.length, [(RV.t 4), (RV.t 5)], R, false⟩ [.code f39_c25, .fin] ⟨args ++ List.replicate (32 - args.length) .un, pre⟩) : Tri Go.Proofs.Tryz.prog gp 39 args pre R :=
  tri_intro Go.Proofs.Tryz.func39 f39_body f39_tr f39_rs (by rw [f39_nt]; exact h)
def f42_r0 : List MO := [
(Qa (Qv 4) (Qd (Qo (Qp (Qq (Qs false))))))]
def f42_c0 : MC := .reg false f42_r0
def f42_r1 : List MO := [
(Qa (Qv 6) (Qd (Qn 0))),
(Qa (Qv 7) (Qk Qt (Qn 6))),
(Qa (Qv 8) (Qd (Qn 1))),
(Qa (Qv 9) (Qk Qt (Qn 8))),
(Qa (Qv 10) (Qe Qt Go.BinOp.neq (Qn 7) (Qn 9)))]
def f42_c1 : MC := .reg false f42_r1
def f42_r2 : List MO := [
(Qa (Qv 4) (Qd (Qo (Qp (Qq (Qs false))))))]
def f42_c2 : MC := .reg false f42_r2
def f42_c3 : MC := MC.ret
def f42_c4 : MC := .seq f42_c2 f42_c3
def f42_c5 : MC := MC.skip
def f42_c6 : MC := .cond (Qn 10) f42_c4 f42_c5
def f42_c7 : MC := .seq f42_c1 f42_c6
def f42_r8 : List MO := [
(Qa (Qv 11) (Qd (Qn 0))),
(Qa (Qv 12) (Qk Qt (Qn 11))),
(Qa (Qv 13) (Qd (Qo (Qp (Qq (Qr Qu 0))))))]
def f42_c8 : MC := .reg false f42_r8
def f42_r9 : List MO := [
(Qa (Qv 14) (Qe Qt Go.BinOp.lss (Qn 13) (Qn 12)))]
def f42_c9 : MC := .reg false f42_r9
def f42_c10 : MC := MC.skip
def f42_c11 : MC := (MC.exit 0)
def f42_c12 : MC := .cond (Qn 14) f42_c10 f42_c11
def f42_r13 : List MO := [
(Qa (Qv 15) (Qd (Qn 13))),
(Qa (Qv 5) (Qd (Qn 15)))]
def f42_c13 : MC := .reg false f42_r13
def f42_r14 : List MO := [
(Qa (Qv 16) (Qd (Qn 0))),
(Qa (Qv 17) (Qd (Qn 5))),
(Qa (Qv 18) (Qj 3 (Qn 16) (Qn 17))),
(Qa (Qv 19) (Qf 3 true (Qn 18))),
(Qa (Qv 20) (Qd (Qn 1))),
(Qa (Qv 21) (Qd (Qn 5))),
(Qa (Qv 22) (Qj 3 (Qn 20) (Qn 21))),
(Qa (Qv 23) (Qf 3 true (Qn 22))),
(Qa (Qv 24) (MOp.eqs true [Qt, Qt, Leaf.s] (Qn 19) (Qn 23)))]
def f42_c14 : MC := .reg true f42_r14
def f42_r15 : List MO := [
(Qa (Qv 4) (Qd (Qo (Qp (Qq (Qs false))))))]
def f42_c15 : MC := .reg false f42_r15
def f42_c16 : MC := MC.ret
def f42_c17 : MC := .seq f42_c15 f42_c16
def f42_c18 : MC := MC.skip
def f42_c19 : MC := .cond (Qn 24) f42_c17 f42_c18
def f42_c20 : MC := .seq f42_c14 f42_c19
def f42_c21 : MC := .seq f42_c13 f42_c20
def f42_c22 : MC := .blk 1 f42_c21
def f42_r23 : List MO := [
(Qa (Qv 25) (Qe Qt Go.BinOp.add (Qn 13) (Qo (Qp (Qq (Qr Qu 1)))))),
(Qa (Qv 13) (Qd (Qn 25)))]
def f42_c23 : MC := .reg false f42_r23
def f42_c24 : MC := .seq f42_c22 f42_c23
def f42_c25 : MC := .seq f42_c12 f42_c24
def f42_c26 : MC := .seq f42_c9 f42_c25
def f42_c27 : MC := .loop f42_c26
def f42_c28 : MC := .blk 0 f42_c27
def f42_c29 : MC := .seq f42_c8 f42_c28
def f42_r30 : List MO := [
(Qa (Qv 4) (Qd (Qo (Qp (Qq (Qs true))))))]
def f42_c30 : MC := .reg false f42_r30
def f42_c31 : MC := MC.ret
def f42_c32 : MC := .seq f42_c30 f42_c31
def f42_c33 : MC := .seq f42_c29 f42_c32
def f42_c34 : MC := .seq f42_c7 f42_c33
def f42_c35 : MC := .seq f42_c0 f42_c34
noncomputable def f42_code : Code := (Go.Proofs.Tryz.f42.body).getD .skip
theorem f42_body : Go.Proofs.Tryz.f42.body = Qv f42_code := by kernel_rfl
theorem f42_tr : trC Go.Proofs.Tryz.prog [] f42_code = Qv f42_c35 := by kernel_rfl
theorem f42_rs : rsOf Go.Proofs.Tryz.prog Go.Proofs.Tryz.f42.results.toList = Qv [(RV.t 4)] := by kernel_rfl
theorem f42_nt : Go.Proofs.Tryz.f42.ntmps = 26 := by kernel_rfl
theorem f42_ok : callable Go.Proofs.Tryz.prog 42 = true := by kernel_rfl
theorem f42_in {gp : Heap} {args : List V} {res : V} (h : G ⟨Go.Proofs.Tryz.prog, gp, 0, [(RV.t 4)], fun r c => r = res ∧ c = [], false⟩ [.code f42_c35, .fin] ⟨args ++ List.replicate (26 - args.length) .un, []⟩) : Does Go.Proofs.Tryz.prog gp 42 args res :=
  does_intro f42_ok Go.Proofs.Tryz.func42 f42_body f42_tr f42_rs (by rw [f42_nt]; exact h)
theorem f42_tri {gp : Heap} {args : List V} {pre : List Ch} {R : V → List Ch → Prop} (h : G ⟨Go.Proofs.Tryz.prog, gp, pre.length, [(RV.t 4)], R, false⟩ [.code f42_c35, .fin] ⟨args ++ List.replicate (26 - args.length) .un, pre⟩) : Tri Go.Proofs.Tryz.prog gp 42 args pre R :=
  tri_intro Go.Proofs.Tryz.func42 f42_body f42_tr f42_rs (by rw [f42_nt]; exact h)
def f45_r0 : List MO := [
(Qa (Qv 1) (MOp.ibox (Qn 0))),
(Qa (Qv 2) (MOp.alloc [(Qr Qu 0), (Qr Qu 0), (D.str (ByteArray.mk #[]))]))]
def f45_c0 : MC := .reg false f45_r0
def f45_r1 : List MO := [
(Qa (Qv 3) (Qg 0 (Qn 1))),
(Qa (Qv 4) (Qf 1 false (Qn 3))),
(Qa (Qv 5) (Qg 1 (Qn 1))),
(Qa (Qv 6) (Qf 1 false (Qn 5))),
(Qa (Qv 7) (Qg 2 (Qn 1))),
(Qa (Qv 8) (Qf 1 false (Qn 7))),
(Qa (Qv 9) (Qh 58 [(Qn 8)])),
(Qa (Qv 10) (MOp.build [(Qr Qu 0), (Qr Qu 0), (D.str (ByteArray.mk #[]))] [(0, (1, (Qn 4))), (1, (1, (Qn 6))), (2, (1, (Qn 9)))])),
(Qa none (Ql 3 (Qn 2) (Qn 10)))]
def f45_c1 : MC := .reg true f45_r1
def f45_c2 : MC := MC.ret
def f45_c3 : MC := .seq f45_c1 f45_c2
def f45_c4 : MC := .seq f45_c0 f45_c3
noncomputable def f45_code : Code := (Go.Proofs.Tryz.f45.body).getD .skip
theorem f45_body : Go.Proofs.Tryz.f45.body = Qv f45_code := by kernel_rfl
theorem f45_tr : trC Go.Proofs.Tryz.prog [1] f45_code = Qv f45_c4 := by kernel_rfl
theorem f45_rs : rsOf Go.Proofs.Tryz.prog Go.Proofs.Tryz.f45.results.toList = Qv [(RV.cell 2 3 true)] := by kernel_rfl
theorem f45_nt : Go.Proofs.Tryz.f45.ntmps = 11 := by kernel_rfl
theorem f45_ok : callable Go.Proofs.Tryz.prog 45 = true := by kernel_rfl
theorem f45_in {gp : Heap} {args : List V} {res : V} (h : G ⟨Go.Proofs.Tryz.prog, gp, 0, [(RV.cell 2 3 true)], fun r c => r = res ∧ c = [], false⟩ [.code f45_c4, .fin] ⟨args ++ List.replicate (11 - args.length) .un, []⟩) : Does Go.Proofs.Tryz.prog gp 45 args res :=
  does_intro f45_ok Go.Proofs.Tryz.func45 f45_body f45_tr f45_rs (by rw [f45_nt]; exact h)
theorem f45_tri {gp : Heap} {args : List V} {pre : List Ch} {R : V → List Ch → Prop} (h : G ⟨Go.Proofs.Tryz.prog, gp, pre.length, [(RV.cell 2 3 true)], R, false⟩ [.code f45_c4, .fin] ⟨args ++ List.replicate (11 - args.length) .un, pre⟩) : Tri Go.Proofs.Tryz.prog gp 45 args pre R :=
  tri_intro Go.Proofs.Tryz.func45 f45_body f45_tr f45_rs (by rw [f45_nt]; exact h)
def f50_r0 : List MO := [
(Qa (Qv 2) (Qd (Qo (Qp (Qq (Qr Qu 0)))))),
(Qa (Qv 3) (Qd (Qo (Qp (Qq (Qr Qu 0))))))]
def f50_c0 : MC := .reg false f50_r0
def f50_r1 : List MO := [
(Qa (Qv 4) (MOp.alloc [(Qr Qu 0), (Qr Qu 0)]))]
def f50_c1 : MC := .reg false f50_r1
def f50_r2 : List MO := [
(Qa (Qv 5) (Qd (Qn 0))),
(Qa (Qv 6) (MOp.mkI 128 (Qn 4))),
(Qa (Qv 7) (Qh 65 [(Qn 5), (Qn 6)]))]
def f50_c2 : MC := .reg false f50_r2
def f50_r3 : List MO := [
(Qa (Qv 8) (Qg 0 (Qn 4))),
(Qa (Qv 9) (Qf 1 false (Qn 8))),
(Qa (Qv 10) (Qg 1 (Qn 4))),
(Qa (Qv 11) (Qf 1 false (Qn 10))),
(Qa (Qv 2) (Qd (Qn 9))),
(Qa (Qv 3) (Qd (Qn 11)))]
def f50_c3 : MC := .reg true f50_r3
def f50_c4 : MC := MC.ret
def f50_c5 : MC := .seq f50_c3 f50_c4
def f50_c6 : MC := MC.skip
def f50_c7 : MC := .cond (Qn 7) f50_c5 f50_c6
def f50_c8 : MC := .seq f50_c2 f50_c7
def f50_r9 : List MO := [
(Qa (Qv 2) (Qd (Qo (Qp (Qq (Qr Qu 0)))))),
(Qa (Qv 3) (Qd (Qo (Qp (Qq (Qr Qu 0))))))]
def f50_c9 : MC := .reg false f50_r9
def f50_c10 : MC := MC.ret
def f50_c11 : MC := .seq f50_c9 f50_c10
def f50_c12 : MC := .seq f50_c8 f50_c11
def f50_c13 : MC := .seq f50_c1 f50_c12
def f50_c14 : MC := .seq f50_c0 f50_c13
noncomputable def f50_code : Code := (Go.Proofs.Tryz.f50.body).getD .skip
theorem f50_body : Go.Proofs.Tryz.f50.body = Qv f50_code := by kernel_rfl
theorem f50_tr : trC Go.Proofs.Tryz.prog [] f50_code = Qv f50_c14 := by kernel_rfl
theorem f50_rs : rsOf Go.Proofs.Tryz.prog Go.Proofs.Tryz.f50.results.toList = Qv [(RV.t 2), (RV.t 3)] := by kernel_rfl
theorem f50_nt : Go.Proofs.Tryz.f50.ntmps = 12 := by kernel_rfl
theorem f50_ok : callable Go.Proofs.Tryz.prog 50 = true := by kernel_rfl
theorem f50_in {gp : Heap} {args : List V} {res : V} (h : G ⟨Go.Proofs.Tryz.prog, gp, 0, [(RV.t 2), (RV.t 3)], fun r c => r = res ∧ c = [], false⟩ [.code f50_c14, .fin] ⟨args ++ List.replicate (12 - args.length) .un, []⟩) : Does Go.Proofs.Tryz.prog gp 50 args res :=
  does_intro f50_ok Go.Proofs.Tryz.func50 f50_body f50_tr f50_rs (by rw [f50_nt]; exact h)
theorem f50_tri {gp : Heap} {args : List V} {pre : List Ch} {R : V → List Ch → Prop} (h : G ⟨Go.Proofs.Tryz.prog, gp, pre.length, [(RV.t 2), (RV.t 3)], R, false⟩ [.code f50_c14, .fin] ⟨args ++ List.replicate (12 - args.length) .un, pre⟩) : Tri Go.Proofs.Tryz.prog gp 50 args pre R :=
  tri_intro Go.Proofs.Tryz.func50 f50_body f50_tr f50_rs (by rw [f50_nt]; exact h)
def f51_r0 : List MO := [
(Qa (Qv 1) (MOp.ibox (Qn 0))),
(Qa (Qv 2) (MOp.alloc [D.nilI]))]
def f51_c0 : MC := .reg false f51_r0
def f51_r1 : List MO := [
(Qa (Qv 6) (Qg 1 (Qn 1))),
(Qa (Qv 7) (Qf 1 false (Qn 6))),
(Qa (Qv 8) (Qk Qt (Qn 7))),
(Qa (Qv 9) (Qe Qt Go.BinOp.gtr (Qn 8) (Qo (Qp (Qq (Qr Qu 200)))))),
(Qa (Qv 5) (Qd (Qn 9)))]
def f51_c1 : MC := .reg false f51_r1
def f51_r2 : List MO := [
(Qa (Qv 10) (MOp.build [(Qr Qu 0), (Qr Qu 0)] [(0, (1, (Qo (Qp (Qq (Qr Qu 0)))))), (1, (1, (Qo (Qp (Qq (Qr Qu 71))))))])),
(Qa (Qv 11) (MOp.mkI 126 (Qn 10))),
(Qa none (Ql 1 (Qn 2) (Qn 11)))]
def f51_c2 : MC := .reg false f51_r2
def f51_c3 : MC := MC.ret
def f51_c4 : MC := .seq f51_c2 f51_c3
def f51_r5 : List MO := [
(Qa (Qv 13) (Qf 2 true (Qn 1))),
(Qa (Qv 14) (Qg 0 (Qn 1))),
(Qa (Qv 15) (Qf 1 false (Qn 14))),
(Qa (Qv 16) (Qh 66 [(Qn 13), (Qn 15)])),
(Qa (Qv 17) (MOp.not (Qn 16))),
(Qa (Qv 12) (Qd (Qn 17)))]
def f51_c5 : MC := .reg false f51_r5
def f51_r6 : List MO := [
(Qa (Qv 18) (MOp.build [(Qr Qu 0), (Qr Qu 0)] [(0, (1, (Qo (Qp (Qq (Qr Qu (-1))))))), (1, (1, (Qo (Qp (Qq (Qr Qu 70))))))])),
(Qa (Qv 19) (MOp.mkI 126 (Qn 18))),
(Qa none (Ql 1 (Qn 2) (Qn 19)))]
def f51_c6 : MC := .reg false f51_r6
def f51_c7 : MC := MC.ret
def f51_c8 : MC := .seq f51_c6 f51_c7
def f51_c9 : MC := MC.skip
def f51_c10 : MC := .cond (Qn 12) f51_c8 f51_c9
def f51_c11 : MC := .seq f51_c5 f51_c10
def f51_c12 : MC := .cond (Qn 5) f51_c4 f51_c11
def f51_c13 : MC := .seq f51_c1 f51_c12
def f51_c14 : MC := .blk 0 f51_c13
def f51_r15 : List MO := [
(Qa (Qv 20) (Qf 2 true (Qn 1))),
(Qa (Qv 21) (Qh 67 [(Qn 20)]))]
def f51_c15 : MC := .reg false f51_r15
def f51_r16 : List MO := [
(Qa (Qv 3) (Qd (Qn 22)))]
def f51_c16 : MC := .reg false f51_r16
def f51_r17 : List MO := [
(Qa (Qv 4) (MOp.alloc [(Qr Qu 0), (Qr Qu 0), (Qr Qu 0), (D.str (ByteArray.mk #[])), (D.sl []), (D.sl []), (Qr Qu 0)])),
(Qa none (Ql 7 (Qn 4) (Qn 23)))]
def f51_c17 : MC := .reg false f51_r17
def f51_c18 : MC := .seq f51_c16 f51_c17
def f51_r19 : List MO := [
(Qa (Qv 24) (Qf 7 true (Qn 4))),
(Qa (Qv 25) (Qh 68 [(Qn 24)])),
(Qa (Qv 26) (MOp.not (Qn 25)))]
def f51_c19 : MC := .reg false f51_r19
def f51_r20 : List MO := [
(Qa (Qv 27) (Qd (Qn 3))),
(Qa (Qv 28) (MOp.build [(Qr Qu 0), (Qr Qu 0)] [(0, (1, (Qn 27))), (1, (1, (Qo (Qp (Qq (Qr Qu 70))))))])),
(Qa (Qv 29) (MOp.mkI 126 (Qn 28))),
(Qa none (Ql 1 (Qn 2) (Qn 29)))]
def f51_c20 : MC := .reg false f51_r20
def f51_c21 : MC := MC.ret
def f51_c22 : MC := .seq f51_c20 f51_c21
def f51_c23 : MC := MC.skip
def f51_c24 : MC := .cond (Qn 26) f51_c22 f51_c23
def f51_c25 : MC := .seq f51_c19 f51_c24
def f51_c26 : MC := .blk 2 f51_c25
def f51_c27 : MC := .rf (Qn 21) [22, 23] f51_c18 f51_c26
def f51_c28 : MC := .blk 1 f51_c27
def f51_c29 : MC := .seq f51_c15 f51_c28
def f51_r30 : List MO := [
(Qa none (Ql 1 (Qn 2) (Qo (Qp (Qq D.nilI)))))]
def f51_c30 : MC := .reg false f51_r30
def f51_c31 : MC := MC.ret
def f51_c32 : MC := .seq f51_c30 f51_c31
def f51_c33 : MC := .seq f51_c29 f51_c32
def f51_c34 : MC := .seq f51_c14 f51_c33
def f51_c35 : MC := .seq f51_c0 f51_c34
noncomputable def f51_code : Code := (Go.Proofs.Tryz.f51.body).getD .skip
theorem f51_body : Go.Proofs.Tryz.f51.body = Qv f51_code := by kernel_rfl
theorem f51_tr : trC Go.Proofs.Tryz.prog [1] f51_code = Qv f51_c35 := by kernel_rfl
theorem f51_rs : rsOf Go.Proofs.Tryz.prog Go.Proofs.Tryz.f51.results.toList = Qv [(RV.cell 2 1 false)] := by kernel_rfl
theorem f51_nt : Go.Proofs.Tryz.f51.ntmps = 30 := by kernel_rfl
theorem f51_ok : callable Go.Proofs.Tryz.prog 51 = true := by kernel_rfl
theorem f51_in {gp : Heap} {args : List V} {res : V} (h : G ⟨Go.Proofs.Tryz.prog, gp, 0, [(RV.cell 2 1 false)], fun r c => r = res ∧ c = [], false⟩ [.code f51_c35, .fin] ⟨args ++ List.replicate (30 - args.length) .un, []⟩) : Does Go.Proofs.Tryz.prog gp 51 args res :=
  does_intro f51_ok Go.Proofs.Tryz.func51 f51_body f51_tr f51_rs (by rw [f51_nt]; exact h)
theorem f51_tri {gp : Heap} {args : List V} {pre : List Ch} {R : V → List Ch → Prop} (h : G ⟨Go.Proofs.Tryz.prog, gp, pre.length, [(RV.cell 2 1 false)], R, false⟩ [.code f51_c35, .fin] ⟨args ++ List.replicate (30 - args.length) .un, pre⟩) : Tri Go.Proofs.Tryz.prog gp 51 args pre R :=
  tri_intro Go.Proofs.Tryz.func51 f51_body f51_tr f51_rs (by rw [f51_nt]; exact h)
def f52_r0 : List MO := [
(Qa (Qv 2) (MOp.ibox (Qn 0))),
(Qa (Qv 4) (MOp.alloc [(Qr Qu 0), (Qr Qu 0), (Qr Qu 0), (D.str (ByteArray.mk #[])), (D.sl []), (D.sl []), (Qr Qu 0)])),
(Qa (Qv 5) (Qd (Qo (Qp (Qq (Qr Qu 0))))))]
def f52_c0 : MC := .reg false f52_r0
def f52_r1 : List MO := [
(Qa (Qv 6) (Qf 2 true (Qn 2))),
(Qa (Qv 7) (Qd (Qn 1))),
(Qa (Qv 8) (Qh 66 [(Qn 6), (Qn 7)])),
(Qa (Qv 9) (MOp.not (Qn 8)))]
def f52_c1 : MC := .reg false f52_r1
def f52_r2 : List MO := [
(Qa (Qv 10) (MOp.build [(Qr Qu 0), (Qr Qu 0), (Qr Qu 0), (D.str (ByteArray.mk #[])), (D.sl []), (D.sl []), (Qr Qu 0)] [])),
(Qa none (Ql 7 (Qn 4) (Qn 10))),
(Qa (Qv 5) (Qd (Qo (Qp (Qq (Qr Qu 2))))))]
def f52_c2 : MC := .reg false f52_r2
def f52_c3 : MC := MC.ret
def f52_c4 : MC := .seq f52_c2 f52_c3
def f52_c5 : MC := MC.skip
def f52_c6 : MC := .cond (Qn 9) f52_c4 f52_c5
def f52_c7 : MC := .seq f52_c1 f52_c6
def f52_r8 : List MO := [
(Qa (Qv 11) (Qg 1 (Qn 2))),
(Qa (Qv 12) (Qf 1 false (Qn 11))),
(Qa (Qv 13) (Qd (Qn 1))),
(Qa (Qv 14) (Qj 6 (Qn 12) (Qn 13))),
(Qa (Qv 15) (Qf 6 true (Qn 14))),
(Qa (Qv 16) (Qg 1 (Qn 2))),
(Qa (Qv 17) (Qf 1 false (Qn 16))),
(Qa (Qv 18) (Qk Qt (Qn 17))),
(Qa (Qv 19) (MOp.build [(Qr Qu 0), (Qr Qu 0), (Qr Qu 0), (D.str (ByteArray.mk #[])), (D.sl []), (D.sl []), (Qr Qu 0)] [(0, (6, (Qn 15))), (6, (1, (Qn 18)))])),
(Qa none (Ql 7 (Qn 4) (Qn 19))),
(Qa (Qv 5) (Qd (Qo (Qp (Qq (Qr Qu 0))))))]
def f52_c8 : MC := .reg true f52_r8
def f52_c9 : MC := MC.ret
def f52_c10 : MC := .seq f52_c8 f52_c9
def f52_c11 : MC := .seq f52_c7 f52_c10
def f52_c12 : MC := .seq f52_c0 f52_c11
noncomputable def f52_code : Code := (Go.Proofs.Tryz.f52.body).getD .skip
theorem f52_body : Go.Proofs.Tryz.f52.body = Qv f52_code := by kernel_rfl
theorem f52_tr : trC Go.Proofs.Tryz.prog [2] f52_code = Qv f52_c12 := by kernel_rfl
theorem f52_rs : rsOf Go.Proofs.Tryz.prog Go.Proofs.Tryz.f52.results.toList = Qv [(RV.cell 4 7 true), (RV.t 5)] := by kernel_rfl
theorem f52_nt : Go.Proofs.Tryz.f52.ntmps = 20 := by kernel_rfl
theorem f52_ok : callable Go.Proofs.Tryz.prog 52 = true := by kernel_rfl
theorem f52_in {gp : Heap} {args : List V} {res : V} (h : G ⟨Go.Proofs.Tryz.prog, gp, 0, [(RV.cell 4 7 true), (RV.t 5)], fun r c => r = res ∧ c = [], false⟩ [.code f52_c12, .fin] ⟨args ++ List.replicate (20 - args.length) .un, []⟩) : Does Go.Proofs.Tryz.prog gp 52 args res :=
  does_intro f52_ok Go.Proofs.Tryz.func52 f52_body f52_tr f52_rs (by rw [f52_nt]; exact h)
theorem f52_tri {gp : Heap} {args : List V} {pre : List Ch} {R : V → List Ch → Prop} (h : G ⟨Go.Proofs.Tryz.prog, gp, pre.length, [(RV.cell 4 7 true), (RV.t 5)], R, false⟩ [.code f52_c12, .fin] ⟨args ++ List.replicate (20 - args.length) .un, pre⟩) : Tri Go.Proofs.Tryz.prog gp 52 args pre R :=
  tri_intro Go.Proofs.Tryz.func52 f52_body f52_tr f52_rs (by rw [f52_nt]; exact h)
def f53_r0 : List MO := [
(Qa (Qv 2) (Qd (Qo (Qp A.nil))))]
def f53_c0 : MC := .reg false f53_r0
def f53_r1 : List MO := [
(Qa (Qv 3) (Qd (Qn 0))),
(Qa (Qv 4) (MOp.nilq NK.sl false (Qn 3)))]
def f53_c1 : MC := .reg false f53_r1
def f53_r2 : List MO := [
(Qa (Qv 2) (Qd (Qo (Qp A.nil))))]
def f53_c2 : MC := .reg false f53_r2
def f53_c3 : MC := MC.ret
def f53_c4 : MC := .seq f53_c2 f53_c3
def f53_c5 : MC := MC.skip
def f53_c6 : MC := .cond (Qn 4) f53_c4 f53_c5
def f53_c7 : MC := .seq f53_c1 f53_c6
def f53_r8 : List MO := [
(Qa (Qv 5) (MOp.bslO 1 [(Qr Qu 0)] 0 [])),
(Qa (Qv 6) (Qd (Qn 0))),
(Qa (Qv 7) (MOp.app 1 8 (Qn 5) (Qn 6))),
(Qa (Qv 2) (Qd (Qn 7)))]
def f53_c8 : MC := .reg false f53_r8
def f53_c9 : MC := MC.ret
def f53_c10 : MC := .seq f53_c8 f53_c9
def f53_c11 : MC := .seq f53_c7 f53_c10
def f53_c12 : MC := .seq f53_c0 f53_c11
noncomputable def f53_code : Code := (Go.Proofs.Tryz.f53.body).getD .skip
theorem f53_body : Go.Proofs.Tryz.f53.body = Qv f53_code := by kernel_rfl
theorem f53_tr : trC Go.Proofs.Tryz.prog [5] f53_code = Qv f53_c12 := by kernel_rfl
theorem f53_rs : rsOf Go.Proofs.Tryz.prog Go.Proofs.Tryz.f53.results.toList = Qv [(RV.t 2)] := by kernel_rfl
theorem f53_nt : Go.Proofs.Tryz.f53.ntmps = 8 := by kernel_rfl
theorem f53_ok : callable Go.Proofs.Tryz.prog 53 = true := by kernel_rfl
theorem f53_in {gp : Heap} {args : List V} {res : V} (h : G ⟨Go.Proofs.Tryz.prog, gp, 0, [(RV.t 2)], fun r c => r = res ∧ c = [], false⟩ [.code f53_c12, .fin] ⟨args ++ List.replicate (8 - args.length) .un, []⟩) : Does Go.Proofs.Tryz.prog gp 53 args res :=
  does_intro f53_ok Go.Proofs.Tryz.func53 f53_body f53_tr f53_rs (by rw [f53_nt]; exact h)
theorem f53_tri {gp : Heap} {args : List V} {pre : List Ch} {R : V → List Ch → Prop} (h : G ⟨Go.Proofs.Tryz.prog, gp, pre.length, [(RV.t 2)], R, false⟩ [.code f53_c12, .fin] ⟨args ++ List.replicate (8 - args.length) .un, pre⟩) : Tri Go.Proofs.Tryz.prog gp 53 args pre R :=
  tri_intro Go.Proofs.Tryz.func53 f53_body f53_tr f53_rs (by rw [f53_nt]; exact h)
def f54_r0 : List MO := [
(Qa (Qv 1) (MOp.ibox (Qn 0))),
(Qa (Qv 2) (Qd (Qo (Qp A.nil))))]
def f54_c0 : MC := .reg false f54_r0
def f54_r1 : List MO := [
(Qa (Qv 6) (Qg 0 (Qn 1))),
(Qa (Qv 7) (Qg 0 (Qn 6))),
(Qa (Qv 8) (Qf 1 false (Qn 7))),
(Qa (Qv 9) (Qe Qt Go.BinOp.neq (Qn 8) (Qo (Qp (Qq (Qr Qu 2)))))),
(Qa (Qv 10) (Qd (Qn 9))),
(Qb 10 false (Qv 11)),
(Qa (Qv 11) (Qf 7 true (Qn 1))),
(Qb 10 false (Qv 12)),
(Qa (Qv 12) (Qh 69 [(Qn 11)])),
(Qb 10 false (Qv 13)),
(Qa (Qv 13) (MOp.not (Qn 12))),
(Qa (Qv 14) (Qm (Qn 10) (Qo (Qp (Qq (Qs true)))) (Qn 13)))]
def f54_c1 : MC := .reg false f54_r1
def f54_r2 : List MO := [
(Qa (Qv 2) (Qd (Qo (Qp A.nil))))]
def f54_c2 : MC := .reg false f54_r2
def f54_c3 : MC := MC.ret
def f54_c4 : MC := .seq f54_c2 f54_c3
def f54_c5 : MC := MC.skip
def f54_c6 : MC := .cond (Qn 14) f54_c4 f54_c5
def f54_c7 : MC := .seq f54_c1 f54_c6
def f54_r8 : List MO := [
(Qa (Qv 3) (Qd (Qo (Qp A.nil))))]
def f54_c8 : MC := .reg false f54_r8
def f54_r9 : List MO := [
(Qa (Qv 15) (Qg 0 (Qn 1))),
(Qa (Qv 16) (Qg 4 (Qn 15))),
(Qa (Qv 17) (Qf 1 false (Qn 16))),
(Qa (Qv 18) (Qk Qt (Qn 17))),
(Qa (Qv 19) (Qd (Qo (Qp (Qq (Qr Qu 0))))))]
def f54_c9 : MC := .reg false f54_r9
def f54_r10 : List MO := [
(Qa (Qv 20) (Qe Qt Go.BinOp.lss (Qn 19) (Qn 18)))]
def f54_c10 : MC := .reg false f54_r10
def f54_c11 : MC := MC.skip
def f54_c12 : MC := (MC.exit 0)
def f54_c13 : MC := .cond (Qn 20) f54_c11 f54_c12
def f54_r14 : List MO := [
(Qa (Qv 21) (Qd (Qn 19))),
(Qa (Qv 22) (Qj 3 (Qn 17) (Qn 19))),
(Qa (Qv 23) (Qf 3 true (Qn 22))),
(Qa (Qv 5) (MOp.alloc [(Qr Qu 0), (Qr Qu 0), (D.str (ByteArray.mk #[]))])),
(Qa (Qv 4) (Qd (Qn 21))),
(Qa none (Ql 3 (Qn 5) (Qn 23)))]
def f54_c14 : MC := .reg false f54_r14
def f54_r15 : List MO := [
(Qa (Qv 24) (Qd (Qn 3))),
(Qa (Qv 25) (Qf 3 true (Qn 5))),
(Qa (Qv 26) (Qg 0 (Qn 1))),
(Qa (Qv 27) (Qg 5 (Qn 26))),
(Qa (Qv 28) (Qf 1 false (Qn 27))),
(Qa (Qv 29) (Qd (Qn 4))),
(Qa (Qv 30) (Qj 1 (Qn 28) (Qn 29))),
(Qa (Qv 31) (Qf 1 false (Qn 30))),
(Qa (Qv 32) (MOp.build [(Qr Qu 0), (Qr Qu 0), (D.str (ByteArray.mk #[])), (Qr Qu 0)] [(0, (3, (Qn 25))), (3, (1, (Qn 31)))])),
(Qa (Qv 33) (MOp.bslice 4 [(Qr Qu 0), (Qr Qu 0), (D.str (ByteArray.mk #[])), (Qr Qu 0)] 1 [(0, (Qn 32))])),
(Qa (Qv 34) (MOp.app 4 40 (Qn 24) (Qn 33))),
(Qa (Qv 3) (Qd (Qn 34)))]
def f54_c15 : MC := .reg true f54_r15
def f54_c16 : MC := .seq f54_c14 f54_c15
def f54_c17 : MC := .blk 1 f54_c16
def f54_r18 : List MO := [
(Qa (Qv 35) (Qe Qt Go.BinOp.add (Qn 19) (Qo (Qp (Qq (Qr Qu 1)))))),
(Qa (Qv 19) (Qd (Qn 35)))]
def f54_c18 : MC := .reg false f54_r18
def f54_c19 : MC := .seq f54_c17 f54_c18
def f54_c20 : MC := .seq f54_c13 f54_c19
def f54_c21 : MC := .seq f54_c10 f54_c20
def f54_c22 : MC := .loop f54_c21
def f54_c23 : MC := .blk 0 f54_c22
def f54_c24 : MC := .seq f54_c9 f54_c23
def f54_r25 : List MO := [
(Qa (Qv 36) (Qd (Qn 3))),
(Qa (Qv 37) (Qh 70 [(Qn 36), (Qo (Qp (Qq (D.fn (Go.Fn.func 71) []))))]))]
def f54_c25 : MC := .reg false f54_r25
def f54_r26 : List MO := [
(Qa (Qv 38) (Qd (Qn 3))),
(Qa (Qv 2) (Qd (Qn 38)))]
def f54_c26 : MC := .reg false f54_r26
def f54_c27 : MC := MC.ret
def f54_c28 : MC := .seq f54_c26 f54_c27
def f54_c29 : MC := .seq f54_c25 f54_c28
def f54_c30 : MC := .seq f54_c24 f54_c29
def f54_c31 : MC := .seq f54_c8 f54_c30
def f54_c32 : MC := .seq f54_c7 f54_c31
def f54_c33 : MC := .seq f54_c0 f54_c32
noncomputable def f54_code : Code := (Go.Proofs.Tryz.f54.body).getD .skip
theorem f54_body : Go.Proofs.Tryz.f54.body = Qv f54_code := by kernel_rfl
theorem f54_tr : trC Go.Proofs.Tryz.prog [1] f54_code = Qv f54_c33 := by kernel_rfl
theorem f54_rs : rsOf Go.Proofs.Tryz.prog Go.Proofs.Tryz.f54.results.toList = Qv [(RV.t 2)] := by kernel_rfl
theorem f54_nt : Go.Proofs.Tryz.f54.ntmps = 39 := by kernel_rfl
theorem f54_ok : callable Go.Proofs.Tryz.prog 54 = true := by kernel_rfl
theorem f54_in {gp : Heap} {args : List V} {res : V} (h : G ⟨Go.Proofs.Tryz.prog, gp, 0, [(RV.t 2)], fun r c => r = res ∧ c = [], false⟩ [.code f54_c33, .fin] ⟨args ++ List.replicate (39 - args.length) .un, []⟩) : Does Go.Proofs.Tryz.prog gp 54 args res :=
  does_intro f54_ok Go.Proofs.Tryz.func54 f54_body f54_tr f54_rs (by rw [f54_nt]; exact h)
theorem f54_tri {gp : Heap} {args : List V} {pre : List Ch} {R : V → List Ch → Prop} (h : G ⟨Go.Proofs.Tryz.prog, gp, pre.length, [(RV.t 2)], R, false⟩ [.code f54_c33, .fin] ⟨args ++ List.replicate (39 - args.length) .un, pre⟩) : Tri Go.Proofs.Tryz.prog gp 54 args pre R :=
  tri_intro Go.Proofs.Tryz.func54 f54_body f54_tr f54_rs (by rw [f54_nt]; exact h)
def f58_r0 : List MO := [
(Qa (Qv 2) (Qd (Qo (Qp (Qq (D.str (ByteArray.mk #[])))))))]
def f58_c0 : MC := .reg false f58_r0
def f58_r1 : List MO := [
(Qa (Qv 3) (Qd (Qn 0))),
(Qa (Qv 4) (Qd (Qn 0))),
(Qa (Qv 5) (Qk Leaf.s (Qn 4))),
(Qa (Qv 6) (MOp.min (Qn 5) (Qo (Qp (Qq (Qr Qu 100)))))),
(Qa (Qv 7) (MOp.slcS (Qn 3) none (Qv (Qn 6)))),
(Qa (Qv 2) (Qd (Qn 7)))]
def f58_c1 : MC := .reg false f58_r1
def f58_c2 : MC := MC.ret
def f58_c3 : MC := .seq f58_c1 f58_c2
def f58_c4 : MC := .seq f58_c0 f58_c3
noncomputable def f58_code : Code := (Go.Proofs.Tryz.f58.body).getD .skip
theorem f58_body : Go.Proofs.Tryz.f58.body = Qv f58_code := by kernel_rfl
theorem f58_tr : trC Go.Proofs.Tryz.prog [] f58_code = Qv f58_c4 := by kernel_rfl
theorem f58_rs : rsOf Go.Proofs.Tryz.prog Go.Proofs.Tryz.f58.results.toList = Qv [(RV.t 2)] := by kernel_rfl
theorem f58_nt : Go.Proofs.Tryz.f58.ntmps = 8 := by kernel_rfl
theorem f58_ok : callable Go.Proofs.Tryz.prog 58 = true := by kernel_rfl
theorem f58_in {gp : Heap} {args : List V} {res : V} (h : G ⟨Go.Proofs.Tryz.prog, gp, 0, [(RV.t 2)], fun r c => r = res ∧ c = [], false⟩ [.code f58_c4, .fin] ⟨args ++ List.replicate (8 - args.length) .un, []⟩) : Does Go.Proofs.Tryz.prog gp 58 args res :=
  does_intro f58_ok Go.Proofs.Tryz.func58 f58_body f58_tr f58_rs (by rw [f58_nt]; exact h)
theorem f58_tri {gp : Heap} {args : List V} {pre : List Ch} {R : V → List Ch → Prop} (h : G ⟨Go.Proofs.Tryz.prog, gp, pre.length, [(RV.t 2)], R, false⟩ [.code f58_c4, .fin] ⟨args ++ List.replicate (8 - args.length) .un, pre⟩) : Tri Go.Proofs.Tryz.prog gp 58 args pre R :=
  tri_intro Go.Proofs.Tryz.func58 f58_body f58_tr f58_rs (by rw [f58_nt]; exact h)
def f66_r0 : List MO := [
(Qa (Qv 2) (MOp.ibox (Qn 0))),
(Qa (Qv 4) (Qd (Qo (Qp (Qq (Qs false))))))]
def f66_c0 : MC := .reg false f66_r0
def f66_r1 : List MO := [
(Qa (Qv 5) (Qd (Qn 1))),
(Qa (Qv 6) (Qe Qt Go.BinOp.geq (Qn 5) (Qo (Qp (Qq (Qr Qu 0)))))),
(Qa (Qv 7) (Qd (Qn 6))),
(Qb 7 true (Qv 8)),
(Qa (Qv 8) (Qd (Qn 1))),
(Qb 7 true (Qv 9)),
(Qa (Qv 9) (Qg 1 (Qn 2))),
(Qb 7 true (Qv 10)),
(Qa (Qv 10) (Qf 1 false (Qn 9))),
(Qb 7 true (Qv 11)),
(Qa (Qv 11) (Qk Qt (Qn 10))),
(Qb 7 true (Qv 12)),
(Qa (Qv 12) (Qe Qt Go.BinOp.lss (Qn 8) (Qn 11))),
(Qa (Qv 13) (Qm (Qn 7) (Qn 12) (Qo (Qp (Qq (Qs false)))))),
(Qa (Qv 4) (Qd (Qn 13)))]
def f66_c1 : MC := .reg false f66_r1
def f66_c2 : MC := MC.ret
def f66_c3 : MC := .seq f66_c1 f66_c2
def f66_c4 : MC := .seq f66_c0 f66_c3
noncomputable def f66_code : Code := (Go.Proofs.Tryz.f66.body).getD .skip
theorem f66_body : Go.Proofs.Tryz.f66.body = Qv f66_code := by kernel_rfl
theorem f66_tr : trC Go.Proofs.Tryz.prog [2] f66_code = Qv f66_c4 := by kernel_rfl
theorem f66_rs : rsOf Go.Proofs.Tryz.prog Go.Proofs.Tryz.f66.results.toList = Qv [(RV.t 4)] := by kernel_rfl
theorem f66_nt : Go.Proofs.Tryz.f66.ntmps = 14 := by kernel_rfl
theorem f66_ok : callable Go.Proofs.Tryz.prog 66 = true := by kernel_rfl
theorem f66_in {gp : Heap} {args : List V} {res : V} (h : G ⟨Go.Proofs.Tryz.prog, gp, 0, [(RV.t 4)], fun r c => r = res ∧ c = [], false⟩ [.code f66_c4, .fin] ⟨args ++ List.replicate (14 - args.length) .un, []⟩) : Does Go.Proofs.Tryz.prog gp 66 args res :=
  does_intro f66_ok Go.Proofs.Tryz.func66 f66_body f66_tr f66_rs (by rw [f66_nt]; exact h)
theorem f66_tri {gp : Heap} {args : List V} {pre : List Ch} {R : V → List Ch → Prop} (h : G ⟨Go.Proofs.Tryz.prog, gp, pre.length, [(RV.t 4)], R, false⟩ [.code f66_c4, .fin] ⟨args ++ List.replicate (14 - args.length) .un, pre⟩) : Tri Go.Proofs.Tryz.prog gp 66 args pre R :=
  tri_intro Go.Proofs.Tryz.func66 f66_body f66_tr f66_rs (by rw [f66_nt]; exact h)
def f67_r0 : List MO := [
(Qa (Qv 1) (MOp.ibox (Qn 0))),
(Qa (Qv 2) (Qd (Qo (Qp (Qq D.nilF)))))]
def f67_c0 : MC := .reg false f67_r0
def f67_r1 : List MO := [
(Qa (Qv 3) (MOp.mkF (Go.Fn.func 83) [(Qn 1)])),
(Qa (Qv 2) (Qd (Qn 3)))]
def f67_c1 : MC := .reg false f67_r1
def f67_c2 : MC := MC.ret
def f67_c3 : MC := .seq f67_c1 f67_c2
def f67_c4 : MC := .seq f67_c0 f67_c3
noncomputable def f67_code : Code := (Go.Proofs.Tryz.f67.body).getD .skip
theorem f67_body : Go.Proofs.Tryz.f67.body = Qv f67_code := by kernel_rfl
theorem f67_tr : trC Go.Proofs.Tryz.prog [1] f67_code = Qv f67_c4 := by kernel_rfl
theorem f67_rs : rsOf Go.Proofs.Tryz.prog Go.Proofs.Tryz.f67.results.toList = Qv [(RV.t 2)] := by kernel_rfl
theorem f67_nt : Go.Proofs.Tryz.f67.ntmps = 4 := by kernel_rfl
theorem f67_ok : callable Go.Proofs.Tryz.prog 67 = true := by kernel_rfl
theorem f67_in {gp : Heap} {args : List V} {res : V} (h : G ⟨Go.Proofs.Tryz.prog, gp, 0, [(RV.t 2)], fun r c => r = res ∧ c = [], false⟩ [.code f67_c4, .fin] ⟨args ++ List.replicate (4 - args.length) .un, []⟩) : Does Go.Proofs.Tryz.prog gp 67 args res :=
  does_intro f67_ok Go.Proofs.Tryz.func67 f67_body f67_tr f67_rs (by rw [f67_nt]; exact h)
theorem f67_tri {gp : Heap} {args : List V} {pre : List Ch} {R : V → List Ch → Prop} (h : G ⟨Go.Proofs.Tryz.prog, gp, pre.length, [(RV.t 2)], R, false⟩ [.code f67_c4, .fin] ⟨args ++ List.replicate (4 - args.length) .un, pre⟩) : Tri Go.Proofs.Tryz.prog gp 67 args pre R :=
  tri_intro Go.Proofs.Tryz.func67 f67_body f67_tr f67_rs (by rw [f67_nt]; exact h)
def f68_r0 : List MO := [
(Qa (Qv 1) (MOp.ibox (Qn 0))),
(Qa (Qv 2) (Qd (Qo (Qp (Qq (Qs false))))))]
def f68_c0 : MC := .reg false f68_r0
def f68_r1 : List MO := [
(Qa (Qv 4) (MOp.build [D.nilF, D.nilF, D.nilF] [(0, (1, (Qo (Qp (Qq (D.fn (Go.Fn.func 84) [])))))), (1, (1, (Qo (Qp (Qq (D.fn (Go.Fn.func 85) [])))))), (2, (1, (Qo (Qp (Qq (D.fn (Go.Fn.func 86) []))))))])),
(Qa (Qv 3) (MOp.alloc [D.nilF, D.nilF, D.nilF])),
(Qa none (Ql 3 (Qn 3) (Qn 4)))]
def f68_c1 : MC := .reg false f68_r1
def f68_r2 : List MO := [
(Qa (Qv 5) (Qg 0 (Qn 1))),
(Qa (Qv 6) (Qg 0 (Qn 5))),
(Qa (Qv 7) (Qf 1 false (Qn 6))),
(Qa (Qv 8) (Qe Qt Go.BinOp.geq (Qn 7) (Qo (Qp (Qq (Qr Qu 0)))))),
(Qa (Qv 9) (Qd (Qn 8))),
(Qb 9 true (Qv 10)),
(Qa (Qv 10) (Qg 0 (Qn 1))),
(Qb 9 true (Qv 11)),
(Qa (Qv 11) (Qg 0 (Qn 10))),
(Qb 9 true (Qv 12)),
(Qa (Qv 12) (Qf 1 false (Qn 11))),
(Qb 9 true (Qv 13)),
(Qa (Qv 13) (Qe Qt Go.BinOp.lss (Qn 12) (Qo (Qp (Qq (Qr Qu 3)))))),
(Qa (Qv 14) (Qm (Qn 9) (Qn 13) (Qo (Qp (Qq (Qs false)))))),
(Qa (Qv 15) (Qd (Qn 14))),
(Qb 15 true (Qv 16)),
(Qa (Qv 16) (Qg 0 (Qn 1))),
(Qb 15 true (Qv 17)),
(Qa (Qv 17) (Qg 0 (Qn 16))),
(Qb 15 true (Qv 18)),
(Qa (Qv 18) (Qf 1 false (Qn 17))),
(Qb 15 true (Qv 19)),
(Qa (Qv 19) (MOp.iadA 3 1 (Qn 3) (Qn 18))),
(Qb 15 true (Qv 20)),
(Qa (Qv 20) (Qf 1 false (Qn 19))),
(Qb 15 true (Qv 21)),
(Qa (Qv 21) (Qf 7 true (Qn 1))),
(Qb 15 true (Qv 22)),
(Qc (Qv 22) (MOp.callv (Qn 20) [(Qn 21)])),
(Qa (Qv 23) (Qm (Qn 15) (Qn 22) (Qo (Qp (Qq (Qs false)))))),
(Qa (Qv 2) (Qd (Qn 23)))]
def f68_c2 : MC := .reg true f68_r2
def f68_c3 : MC := MC.ret
def f68_c4 : MC := .seq f68_c2 f68_c3
def f68_c5 : MC := .seq f68_c1 f68_c4
def f68_c6 : MC := .seq f68_c0 f68_c5
noncomputable def f68_code : Code := (Go.Proofs.Tryz.f68.body).getD .skip
theorem f68_body : Go.Proofs.Tryz.f68.body = Qv f68_code := by kernel_rfl
theorem f68_tr : trC Go.Proofs.Tryz.prog [1] f68_code = Qv f68_c6 := by kernel_rfl
theorem f68_rs : rsOf Go.Proofs.Tryz.prog Go.Proofs.Tryz.f68.results.toList = Qv [(RV.t 2)] := by kernel_rfl
theorem f68_nt : Go.Proofs.Tryz.f68.ntmps = 24 := by kernel_rfl
theorem f68_ok : callable Go.Proofs.Tryz.prog 68 = true := by kernel_rfl
theorem f68_in {gp : Heap} {args : List V} {res : V} (h : G ⟨Go.Proofs.Tryz.prog, gp, 0, [(RV.t 2)], fun r c => r = res ∧ c = [], false⟩ [.code f68_c6, .fin] ⟨args ++ List.replicate (24 - args.length) .un, []⟩) : Does Go.Proofs.Tryz.prog gp 68 args res :=
  does_intro f68_ok Go.Proofs.Tryz.func68 f68_body f68_tr f68_rs (by rw [f68_nt]; exact h)
theorem f68_tri {gp : Heap} {args : List V} {pre : List Ch} {R : V → List Ch → Prop} (h : G ⟨Go.Proofs.Tryz.prog, gp, pre.length, [(RV.t 2)], R, false⟩ [.code f68_c6, .fin] ⟨args ++ List.replicate (24 - args.length) .un, pre⟩) : Tri Go.Proofs.Tryz.prog gp 68 args pre R :=
  tri_intro Go.Proofs.Tryz.func68 f68_body f68_tr f68_rs (by rw [f68_nt]; exact h)
def f69_r0 : List MO := [
(Qa (Qv 1) (MOp.ibox (Qn 0))),
(Qa (Qv 2) (Qd (Qo (Qp (Qq (Qs false))))))]
def f69_c0 : MC := .reg false f69_r0
def f69_r1 : List MO := [
(Qa (Qv 3) (Qg 0 (Qn 1))),
(Qa (Qv 4) (Qg 4 (Qn 3))),
(Qa (Qv 5) (Qf 1 false (Qn 4))),
(Qa (Qv 6) (Qk Qt (Qn 5))),
(Qa (Qv 7) (Qg 0 (Qn 1))),
(Qa (Qv 8) (Qg 5 (Qn 7))),
(Qa (Qv 9) (Qf 1 false (Qn 8))),
(Qa (Qv 10) (Qk Qt (Qn 9))),
(Qa (Qv 11) (Qe Qt Go.BinOp.eql (Qn 6) (Qn 10))),
(Qa (Qv 2) (Qd (Qn 11)))]
def f69_c1 : MC := .reg false f69_r1
def f69_c2 : MC := MC.ret
def f69_c3 : MC := .seq f69_c1 f69_c2
def f69_c4 : MC := .seq f69_c0 f69_c3
noncomputable def f69_code : Code := (Go.Proofs.Tryz.f69.body).getD .skip
theorem f69_body : Go.Proofs.Tryz.f69.body = Qv f69_code := by kernel_rfl
theorem f69_tr : trC Go.Proofs.Tryz.prog [1] f69_code = Qv f69_c4 := by kernel_rfl
theorem f69_rs : rsOf Go.Proofs.Tryz.prog Go.Proofs.Tryz.f69.results.toList = Qv [(RV.t 2)] := by kernel_rfl
theorem f69_nt : Go.Proofs.Tryz.f69.ntmps = 12 := by kernel_rfl
theorem f69_ok : callable Go.Proofs.Tryz.prog 69 = true := by kernel_rfl
theorem f69_in {gp : Heap} {args : List V} {res : V} (h : G ⟨Go.Proofs.Tryz.prog, gp, 0, [(RV.t 2)], fun r c => r = res ∧ c = [], false⟩ [.code f69_c4, .fin] ⟨args ++ List.replicate (12 - args.length) .un, []⟩) : Does Go.Proofs.Tryz.prog gp 69 args res :=
  does_intro f69_ok Go.Proofs.Tryz.func69 f69_body f69_tr f69_rs (by rw [f69_nt]; exact h)
theorem f69_tri {gp : Heap} {args : List V} {pre : List Ch} {R : V → List Ch → Prop} (h : G ⟨Go.Proofs.Tryz.prog, gp, pre.length, [(RV.t 2)], R, false⟩ [.code f69_c4, .fin] ⟨args ++ List.replicate (12 - args.length) .un, pre⟩) : Tri Go.Proofs.Tryz.prog gp 69 args pre R :=
  tri_intro Go.Proofs.Tryz.func69 f69_body f69_tr f69_rs (by rw [f69_nt]; exact h)
def f70_r0 : List MO := [
(Qa (Qv 4) (Qd (Qn 0))),
(Qa (Qv 5) (Qd (Qn 0))),
(Qa (Qv 6) (Qk Qt (Qn 5))),
(Qa (Qv 7) (Qd (Qn 1))),
(Qa (Qv 8) (Qh 87 [(Qn 4), (Qn 6), (Qn 7)]))]
def f70_c0 : MC := .reg false f70_r0
noncomputable def f70_code : Code := (Go.Proofs.Tryz.f70.body).getD .skip
theorem f70_body : Go.Proofs.Tryz.f70.body = Qv f70_code := by kernel_rfl
theorem f70_tr : trC Go.Proofs.Tryz.prog [] f70_code = Qv f70_c0 := by kernel_rfl
theorem f70_rs : rsOf Go.Proofs.Tryz.prog Go.Proofs.Tryz.f70.results.toList = Qv [] := by kernel_rfl
theorem f70_nt : Go.Proofs.Tryz.f70.ntmps = 9 := by kernel_rfl
theorem f70_ok : callable Go.Proofs.Tryz.prog 70 = true := by kernel_rfl
theorem f70_in {gp : Heap} {args : List V} {res : V} (h : G ⟨Go.Proofs.Tryz.prog, gp, 0, [], fun r c => r = res ∧ c = [], false⟩ [.code f70_c0, .fin] ⟨args ++ List.replicate (9 - args.length) .un, []⟩) : Does Go.Proofs.Tryz.prog gp 70 args res :=
  does_intro f70_ok Go.Proofs.Tryz.func70 f70_body f70_tr f70_rs (by rw [f70_nt]; exact h)
theorem f70_tri {gp : Heap} {args : List V} {pre : List Ch} {R : V → List Ch → Prop} (h : G ⟨Go.Proofs.Tryz.prog, gp, pre.length, [], R, false⟩ [.code f70_c0, .fin] ⟨args ++ List.replicate (9 - args.length) .un, pre⟩) : Tri Go.Proofs.Tryz.prog gp 70 args pre R :=
  tri_intro Go.Proofs.Tryz.func70 f70_body f70_tr f70_rs (by rw [f70_nt]; exact h)
def f71_r0 : List MO := [
(Qa (Qv 2) (MOp.ibox (Qn 0))),
(Qa (Qv 3) (MOp.ibox (Qn 1))),
(Qa (Qv 4) (Qd (Qo (Qp (Qq (Qr Qu 0))))))]
def f71_c0 : MC := .reg false f71_r0
def f71_r1 : List MO := [
(Qa (Qv 5) (Qg 0 (Qn 2))),
(Qa (Qv 6) (Qf 3 true (Qn 5))),
(Qa (Qv 7) (Qg 0 (Qn 3))),
(Qa (Qv 8) (Qf 3 true (Qn 7))),
(Qa (Qv 9) (Qh 72 [(Qn 6), (Qn 8)])),
(Qa (Qv 4) (Qd (Qn 9)))]
def f71_c1 : MC := .reg false f71_r1
def f71_c2 : MC := MC.ret
def f71_c3 : MC := .seq f71_c1 f71_c2
def f71_c4 : MC := .seq f71_c0 f71_c3
noncomputable def f71_code : Code := (Go.Proofs.Tryz.f71.body).getD .skip
theorem f71_body : Go.Proofs.Tryz.f71.body = Qv f71_code := by kernel_rfl
theorem f71_tr : trC Go.Proofs.Tryz.prog [2, 3] f71_code = Qv f71_c4 := by kernel_rfl
theorem f71_rs : rsOf Go.Proofs.Tryz.prog Go.Proofs.Tryz.f71.results.toList = Qv [(RV.t 4)] := by kernel_rfl
theorem f71_nt : Go.Proofs.Tryz.f71.ntmps = 10 := by kernel_rfl
theorem f71_ok : callable Go.Proofs.Tryz.prog 71 = true := by kernel_rfl
theorem f71_in {gp : Heap} {args : List V} {res : V} (h : G ⟨Go.Proofs.Tryz.prog, gp, 0, [(RV.t 4)], fun r c => r = res ∧ c = [], false⟩ [.code f71_c4, .fin] ⟨args ++ List.replicate (10 - args.length) .un, []⟩) : Does Go.Proofs.Tryz.prog gp 71 args res :=
  does_intro f71_ok Go.Proofs.Tryz.func71 f71_body f71_tr f71_rs (by rw [f71_nt]; exact h)
theorem f71_tri {gp : Heap} {args : List V} {pre : List Ch} {R : V → List Ch → Prop} (h : G ⟨Go.Proofs.Tryz.prog, gp, pre.length, [(RV.t 4)], R, false⟩ [.code f71_c4, .fin] ⟨args ++ List.replicate (10 - args.length) .un, pre⟩) : Tri Go.Proofs.Tryz.prog gp 71 args pre R :=
  tri_intro Go.Proofs.Tryz.func71 f71_body f71_tr f71_rs (by rw [f71_nt]; exact h)
def f72_r0 : List MO := [
(Qa (Qv 2) (MOp.ibox (Qn 0))),
(Qa (Qv 3) (MOp.ibox (Qn 1))),
(Qa (Qv 4) (Qd (Qo (Qp (Qq (Qr Qu 0))))))]
def f72_c0 : MC := .reg false f72_r0
def f72_r1 : List MO := [
(Qa (Qv 5) (Qf 3 true (Qn 2))),
(Qa (Qv 6) (Qf 3 true (Qn 3))),
(Qa (Qv 7) (MOp.eqs false [Qt, Qt, Leaf.s] (Qn 5) (Qn 6)))]
def f72_c1 : MC := .reg false f72_r1
def f72_r2 : List MO := [
(Qa (Qv 4) (Qd (Qo (Qp (Qq (Qr Qu 0))))))]
def f72_c2 : MC := .reg false f72_r2
def f72_c3 : MC := MC.ret
def f72_c4 : MC := .seq f72_c2 f72_c3
def f72_c5 : MC := MC.skip
def f72_c6 : MC := .cond (Qn 7) f72_c4 f72_c5
def f72_c7 : MC := .seq f72_c1 f72_c6
def f72_r8 : List MO := [
(Qa (Qv 8) (Qg 0 (Qn 2))),
(Qa (Qv 9) (Qf 1 false (Qn 8))),
(Qa (Qv 10) (Qg 0 (Qn 3))),
(Qa (Qv 11) (Qf 1 false (Qn 10))),
(Qa (Qv 12) (Qh 89 [(Qn 9), (Qn 11)])),
(Qa (Qv 13) (Qg 1 (Qn 2))),
(Qa (Qv 14) (Qf 1 false (Qn 13))),
(Qa (Qv 15) (Qg 1 (Qn 3))),
(Qa (Qv 16) (Qf 1 false (Qn 15))),
(Qa (Qv 17) (Qh 89 [(Qn 14), (Qn 16)])),
(Qa (Qv 18) (Qg 2 (Qn 2))),
(Qa (Qv 19) (Qf 1 false (Qn 18))),
(Qa (Qv 20) (Qg 2 (Qn 3))),
(Qa (Qv 21) (Qf 1 false (Qn 20))),
(Qc (Qv 22) (Qh 90 [(Qn 19), (Qn 21)])),
(Qa (Qv 23) (MOp.bslice 1 [(Qr Qu 0)] 3 [(0, (Qn 12)), (1, (Qn 17)), (2, (Qn 22))])),
(Qc (Qv 24) (Qh 88 [(Qn 23)])),
(Qa (Qv 4) (Qd (Qn 24)))]
def f72_c8 : MC := .reg true f72_r8
def f72_c9 : MC := MC.ret
def f72_c10 : MC := .seq f72_c8 f72_c9
def f72_c11 : MC := .seq f72_c7 f72_c10
def f72_c12 : MC := .seq f72_c0 f72_c11
noncomputable def f72_code : Code := (Go.Proofs.Tryz.f72.body).getD .skip
theorem f72_body : Go.Proofs.Tryz.f72.body = Qv f72_code := by kernel_rfl
theorem f72_tr : trC Go.Proofs.Tryz.prog [2, 3] f72_code = Qv f72_c12 := by kernel_rfl
theorem f72_rs : rsOf Go.Proofs.Tryz.prog Go.Proofs.Tryz.f72.results.toList = Qv [(RV.t 4)] := by kernel_rfl
theorem f72_nt : Go.Proofs.Tryz.f72.ntmps = 25 := by kernel_rfl
theorem f72_ok : callable Go.Proofs.Tryz.prog 72 = true := by kernel_rfl
theorem f72_in {gp : Heap} {args : List V} {res : V} (h : G ⟨Go.Proofs.Tryz.prog, gp, 0, [(RV.t 4)], fun r c => r = res ∧ c = [], false⟩ [.code f72_c12, .fin] ⟨args ++ List.replicate (25 - args.length) .un, []⟩) : Does Go.Proofs.Tryz.prog gp 72 args res :=
  does_intro f72_ok Go.Proofs.Tryz.func72 f72_body f72_tr f72_rs (by rw [f72_nt]; exact h)
theorem f72_tri {gp : Heap} {args : List V} {pre : List Ch} {R : V → List Ch → Prop} (h : G ⟨Go.Proofs.Tryz.prog, gp, pre.length, [(RV.t 4)], R, false⟩ [.code f72_c12, .fin] ⟨args ++ List.replicate (25 - args.length) .un, pre⟩) : Tri Go.Proofs.Tryz.prog gp 72 args pre R :=
  tri_intro Go.Proofs.Tryz.func72 f72_body f72_tr f72_rs (by rw [f72_nt]; exact h)
def f83_c0 : MC := MC.skip
def f83_r1 : List MO := [
(Qa (Qv 5) (Qg 1 (Qn 1))),
(Qa (Qv 6) (Qf 1 false (Qn 5))),
(Qa (Qv 7) (Qk Qt (Qn 6))),
(Qa (Qv 8) (Qd (Qo (Qp (Qq (Qr Qu 0))))))]
def f83_c1 : MC := .reg false f83_r1
def f83_r2 : List MO := [
(Qa (Qv 9) (Qe Qt Go.BinOp.lss (Qn 8) (Qn 7)))]
def f83_c2 : MC := .reg false f83_r2
def f83_c3 : MC := MC.skip
def f83_c4 : MC := (MC.exit 0)
def f83_c5 : MC := .cond (Qn 9) f83_c3 f83_c4
def f83_r6 : List MO := [
(Qa (Qv 10) (Qd (Qn 8))),
(Qa (Qv 11) (Qj 6 (Qn 6) (Qn 8))),
(Qa (Qv 12) (Qf 6 true (Qn 11))),
(Qa (Qv 4) (MOp.alloc [(Qr Qu 0), (Qr Qu 0), (Qr Qu 0), (D.str (ByteArray.mk #[])), (D.sl []), (D.sl [])])),
(Qa (Qv 3) (Qd (Qn 10))),
(Qa none (Ql 6 (Qn 4) (Qn 12)))]
def f83_c6 : MC := .reg false f83_r6
def f83_r7 : List MO := [
(Qa (Qv 13) (Qd (Qn 0))),
(Qa (Qv 14) (Qd (Qn 3))),
(Qa (Qv 15) (Qf 6 true (Qn 4))),
(Qa (Qv 16) (Qg 1 (Qn 1))),
(Qa (Qv 17) (Qf 1 false (Qn 16))),
(Qa (Qv 18) (Qk Qt (Qn 17))),
(Qa (Qv 19) (MOp.build [(Qr Qu 0), (Qr Qu 0), (Qr Qu 0), (D.str (ByteArray.mk #[])), (D.sl []), (D.sl []), (Qr Qu 0)] [(0, (6, (Qn 15))), (6, (1, (Qn 18)))])),
(Qa (Qv 20) (MOp.callv (Qn 13) [(Qn 14), (Qn 19)])),
(Qa (Qv 21) (MOp.not (Qn 20)))]
def f83_c7 : MC := .reg false f83_r7
def f83_c8 : MC := (MC.exit 0)
def f83_c9 : MC := MC.skip
def f83_c10 : MC := .cond (Qn 21) f83_c8 f83_c9
def f83_c11 : MC := .seq f83_c7 f83_c10
def f83_c12 : MC := .seq f83_c6 f83_c11
def f83_c13 : MC := .blk 1 f83_c12
def f83_r14 : List MO := [
(Qa (Qv 22) (Qe Qt Go.BinOp.add (Qn 8) (Qo (Qp (Qq (Qr Qu 1)))))),
(Qa (Qv 8) (Qd (Qn 22)))]
def f83_c14 : MC := .reg false f83_r14
def f83_c15 : MC := .seq f83_c13 f83_c14
def f83_c16 : MC := .seq f83_c5 f83_c15
def f83_c17 : MC := .seq f83_c2 f83_c16
def f83_c18 : MC := .loop f83_c17
def f83_c19 : MC := .blk 0 f83_c18
def f83_c20 : MC := .seq f83_c1 f83_c19
def f83_c21 : MC := .seq f83_c0 f83_c20
def f83_c22 : MC := .scope f83_c21
noncomputable def f83_code : Code := (Go.Proofs.Tryz.f83.body).getD .skip
theorem f83_body : Go.Proofs.Tryz.f83.body = Qv f83_code := by kernel_rfl
theorem f83_tr : trC Go.Proofs.Tryz.prog [] f83_code = Qv f83_c22 := by kernel_rfl
theorem f83_rs : rsOf Go.Proofs.Tryz.prog Go.Proofs.Tryz.f83.results.toList = Qv [] := by kernel_rfl
theorem f83_nt : Go.Proofs.Tryz.f83.ntmps = 23 := by kernel_rfl
theorem f83_ok : callable Go.Proofs.Tryz.prog 83 = true := by kernel_rfl
theorem f83_in {gp : Heap} {args : List V} {res : V} (h : G ⟨Go.Proofs.Tryz.prog, gp, 0, [], fun r c => r = res ∧ c = [], false⟩ [.code f83_c22, .fin] ⟨args ++ List.replicate (23 - args.length) .un, []⟩) : Does Go.Proofs.Tryz.prog gp 83 args res :=
  does_intro f83_ok Go.Proofs.Tryz.func83 f83_body f83_tr f83_rs (by rw [f83_nt]; exact h)
theorem f83_tri {gp : Heap} {args : List V} {pre : List Ch} {R : V → List Ch → Prop} (h : G ⟨Go.Proofs.Tryz.prog, gp, pre.length, [], R, false⟩ [.code f83_c22, .fin] ⟨args ++ List.replicate (23 - args.length) .un, pre⟩) : Tri Go.Proofs.Tryz.prog gp 83 args pre R :=
  tri_intro Go.Proofs.Tryz.func83 f83_body f83_tr f83_rs (by rw [f83_nt]; exact h)
def f84_r0 : List MO := [
(Qa (Qv 1) (MOp.ibox (Qn 0))),
(Qa (Qv 2) (Qd (Qo (Qp (Qq (Qs false))))))]
def f84_c0 : MC := .reg false f84_r0
def f84_r1 : List MO := [
(Qa (Qv 3) (Qg 0 (Qn 1))),
(Qa (Qv 4) (Qg 1 (Qn 3))),
(Qa (Qv 5) (Qf 3 true (Qn 4))),
(Qa (Qv 6) (Qh 95 [(Qn 5)])),
(Qa (Qv 7) (Qg 0 (Qn 1))),
(Qa (Qv 8) (Qg 4 (Qn 7))),
(Qa (Qv 9) (Qf 1 false (Qn 8))),
(Qa (Qv 10) (Qk Qt (Qn 9))),
(Qa (Qv 11) (Qe Qt Go.BinOp.eql (Qn 10) (Qo (Qp (Qq (Qr Qu 0)))))),
(Qa (Qv 12) (Qg 0 (Qn 1))),
(Qa (Qv 13) (Qg 5 (Qn 12))),
(Qa (Qv 14) (Qf 1 false (Qn 13))),
(Qa (Qv 15) (Qk Qt (Qn 14))),
(Qa (Qv 16) (Qe Qt Go.BinOp.eql (Qn 15) (Qo (Qp (Qq (Qr Qu 0)))))),
(Qa (Qv 17) (MOp.bslice 1 [(Qs false)] 3 [(0, (Qn 6)), (1, (Qn 11)), (2, (Qn 16))])),
(Qc (Qv 18) (Qh 94 [(Qn 17)])),
(Qa (Qv 2) (Qd (Qn 18)))]
def f84_c1 : MC := .reg true f84_r1
def f84_c2 : MC := MC.ret
def f84_c3 : MC := .seq f84_c1 f84_c2
def f84_c4 : MC := .seq f84_c0 f84_c3
noncomputable def f84_code : Code := (Go.Proofs.Tryz.f84.body).getD .skip
theorem f84_body : Go.Proofs.Tryz.f84.body = Qv f84_code := by kernel_rfl
theorem f84_tr : trC Go.Proofs.Tryz.prog [1] f84_code = Qv f84_c4 := by kernel_rfl
theorem f84_rs : rsOf Go.Proofs.Tryz.prog Go.Proofs.Tryz.f84.results.toList = Qv [(RV.t 2)] := by kernel_rfl
theorem f84_nt : Go.Proofs.Tryz.f84.ntmps = 19 := by kernel_rfl
theorem f84_ok : callable Go.Proofs.Tryz.prog 84 = true := by kernel_rfl
theorem f84_in {gp : Heap} {args : List V} {res : V} (h : G ⟨Go.Proofs.Tryz.prog, gp, 0, [(RV.t 2)], fun r c => r = res ∧ c = [], false⟩ [.code f84_c4, .fin] ⟨args ++ List.replicate (19 - args.length) .un, []⟩) : Does Go.Proofs.Tryz.prog gp 84 args res :=
  does_intro f84_ok Go.Proofs.Tryz.func84 f84_body f84_tr f84_rs (by rw [f84_nt]; exact h)
theorem f84_tri {gp : Heap} {args : List V} {pre : List Ch} {R : V → List Ch → Prop} (h : G ⟨Go.Proofs.Tryz.prog, gp, pre.length, [(RV.t 2)], R, false⟩ [.code f84_c4, .fin] ⟨args ++ List.replicate (19 - args.length) .un, pre⟩) : Tri Go.Proofs.Tryz.prog gp 84 args pre R :=
  tri_intro Go.Proofs.Tryz.func84 f84_body f84_tr f84_rs (by rw [f84_nt]; exact h)
def f85_r0 : List MO := [
(Qa (Qv 1) (MOp.ibox (Qn 0))),
(Qa (Qv 2) (Qd (Qo (Qp (Qq (Qs false))))))]
def f85_c0 : MC := .reg false f85_r0
def f85_r1 : List MO := [
(Qa (Qv 3) (Qg 0 (Qn 1))),
(Qa (Qv 4) (Qg 1 (Qn 3))),
(Qa (Qv 5) (Qf 3 true (Qn 4))),
(Qa (Qv 6) (MOp.build [(Qr Qu 0), (Qr Qu 0), (D.str (ByteArray.mk #[]))] [])),
(Qa (Qv 7) (MOp.eqs false [Qt, Qt, Leaf.s] (Qn 5) (Qn 6))),
(Qa (Qv 8) (Qg 0 (Qn 1))),
(Qa (Qv 9) (Qg 4 (Qn 8))),
(Qa (Qv 10) (Qf 1 false (Qn 9))),
(Qa (Qv 11) (Qk Qt (Qn 10))),
(Qa (Qv 12) (Qe Qt Go.BinOp.eql (Qn 11) (Qo (Qp (Qq (Qr Qu 0)))))),
(Qa (Qv 13) (Qf 7 true (Qn 1))),
(Qa (Qv 14) (Qh 96 [(Qn 13)])),
(Qa (Qv 15) (MOp.bslice 1 [(Qs false)] 3 [(0, (Qn 7)), (1, (Qn 12)), (2, (Qn 14))])),
(Qc (Qv 16) (Qh 94 [(Qn 15)])),
(Qa (Qv 2) (Qd (Qn 16)))]
def f85_c1 : MC := .reg true f85_r1
def f85_c2 : MC := MC.ret
def f85_c3 : MC := .seq f85_c1 f85_c2
def f85_c4 : MC := .seq f85_c0 f85_c3
noncomputable def f85_code : Code := (Go.Proofs.Tryz.f85.body).getD .skip
theorem f85_body : Go.Proofs.Tryz.f85.body = Qv f85_code := by kernel_rfl
theorem f85_tr : trC Go.Proofs.Tryz.prog [1] f85_code = Qv f85_c4 := by kernel_rfl
theorem f85_rs : rsOf Go.Proofs.Tryz.prog Go.Proofs.Tryz.f85.results.toList = Qv [(RV.t 2)] := by kernel_rfl
theorem f85_nt : Go.Proofs.Tryz.f85.ntmps = 17 := by kernel_rfl
theorem f85_ok : callable Go.Proofs.Tryz.prog 85 = true := by kernel_rfl
theorem f85_in {gp : Heap} {args : List V} {res : V} (h : G ⟨Go.Proofs.Tryz.prog, gp, 0, [(RV.t 2)], fun r c => r = res ∧ c = [], false⟩ [.code f85_c4, .fin] ⟨args ++ List.replicate (17 - args.length) .un, []⟩) : Does Go.Proofs.Tryz.prog gp 85 args res :=
  does_intro f85_ok Go.Proofs.Tryz.func85 f85_body f85_tr f85_rs (by rw [f85_nt]; exact h)
theorem f85_tri {gp : Heap} {args : List V} {pre : List Ch} {R : V → List Ch → Prop} (h : G ⟨Go.Proofs.Tryz.prog, gp, pre.length, [(RV.t 2)], R, false⟩ [.code f85_c4, .fin] ⟨args ++ List.replicate (17 - args.length) .un, pre⟩) : Tri Go.Proofs.Tryz.prog gp 85 args pre R :=
  tri_intro Go.Proofs.Tryz.func85 f85_body f85_tr f85_rs (by rw [f85_nt]; exact h)
def f86_r0 : List MO := [
(Qa (Qv 1) (MOp.ibox (Qn 0))),
(Qa (Qv 2) (Qd (Qo (Qp (Qq (Qs false))))))]
def f86_c0 : MC := .reg false f86_r0
def f86_r1 : List MO := [
(Qa (Qv 3) (Qg 0 (Qn 1))),
(Qa (Qv 4) (Qg 1 (Qn 3))),
(Qa (Qv 5) (Qf 3 true (Qn 4))),
(Qa (Qv 6) (MOp.build [(Qr Qu 0), (Qr Qu 0), (D.str (ByteArray.mk #[]))] [])),
(Qa (Qv 7) (MOp.eqs false [Qt, Qt, Leaf.s] (Qn 5) (Qn 6))),
(Qa (Qv 8) (Qf 7 true (Qn 1))),
(Qa (Qv 9) (Qh 69 [(Qn 8)])),
(Qa (Qv 10) (Qf 7 true (Qn 1))),
(Qa (Qv 11) (Qh 97 [(Qn 10)])),
(Qa (Qv 12) (Qf 7 true (Qn 1))),
(Qa (Qv 13) (Qh 96 [(Qn 12)])),
(Qa (Qv 14) (MOp.bslice 1 [(Qs false)] 4 [(0, (Qn 7)), (1, (Qn 9)), (2, (Qn 11)), (3, (Qn 13))])),
(Qc (Qv 15) (Qh 94 [(Qn 14)])),
(Qa (Qv 2) (Qd (Qn 15)))]
def f86_c1 : MC := .reg true f86_r1
def f86_c2 : MC := MC.ret
def f86_c3 : MC := .seq f86_c1 f86_c2
def f86_c4 : MC := .seq f86_c0 f86_c3
noncomputable def f86_code : Code := (Go.Proofs.Tryz.f86.body).getD .skip
theorem f86_body : Go.Proofs.Tryz.f86.body = Qv f86_code := by kernel_rfl
theorem f86_tr : trC Go.Proofs.Tryz.prog [1] f86_code = Qv f86_c4 := by kernel_rfl
theorem f86_rs : rsOf Go.Proofs.Tryz.prog Go.Proofs.Tryz.f86.results.toList = Qv [(RV.t 2)] := by kernel_rfl
theorem f86_nt : Go.Proofs.Tryz.f86.ntmps = 16 := by kernel_rfl
theorem f86_ok : callable Go.Proofs.Tryz.prog 86 = true := by kernel_rfl
theorem f86_in {gp : Heap} {args : List V} {res : V} (h : G ⟨Go.Proofs.Tryz.prog, gp, 0, [(RV.t 2)], fun r c => r = res ∧ c = [], false⟩ [.code f86_c4, .fin] ⟨args ++ List.replicate (16 - args.length) .un, []⟩) : Does Go.Proofs.Tryz.prog gp 86 args res :=
  does_intro f86_ok Go.Proofs.Tryz.func86 f86_body f86_tr f86_rs (by rw [f86_nt]; exact h)
theorem f86_tri {gp : Heap} {args : List V} {pre : List Ch} {R : V → List Ch → Prop} (h : G ⟨Go.Proofs.Tryz.prog, gp, pre.length, [(RV.t 2)], R, false⟩ [.code f86_c4, .fin] ⟨args ++ List.replicate (16 - args.length) .un, pre⟩) : Tri Go.Proofs.Tryz.prog gp 86 args pre R :=
  tri_intro Go.Proofs.Tryz.func86 f86_body f86_tr f86_rs (by rw [f86_nt]; exact h)
def f87_r0 : List MO := [
(Qa (Qv 6) (Qd (Qo (Qp (Qq (Qr Qu 20))))))]
def f87_c0 : MC := .reg false f87_r0
def f87_r1 : List MO := [
(Qa (Qv 10) (Qd (Qn 6))),
(Qa (Qv 7) (Qd (Qo (Qp (Qq (Qr Qu 0)))))),
(Qa (Qv 8) (Qd (Qn 10)))]
def f87_c1 : MC := .reg false f87_r1
def f87_r2 : List MO := [
(Qa (Qv 11) (Qd (Qn 8))),
(Qa (Qv 12) (Qd (Qn 1))),
(Qa (Qv 13) (Qe Qt Go.BinOp.leq (Qn 11) (Qn 12)))]
def f87_c2 : MC := .reg false f87_r2
def f87_c3 : MC := MC.skip
def f87_c4 : MC := (MC.exit 0)
def f87_c5 : MC := .cond (Qn 13) f87_c3 f87_c4
def f87_c6 : MC := .seq f87_c2 f87_c5
def f87_r7 : List MO := [
(Qa (Qv 14) (Qd (Qn 0))),
(Qa (Qv 15) (Qd (Qn 7))),
(Qa (Qv 16) (Qd (Qn 8))),
(Qa (Qv 17) (Qd (Qn 2))),
(Qa (Qv 18) (Qh 98 [(Qn 14), (Qn 15), (Qn 16), (Qn 17)]))]
def f87_c7 : MC := .reg false f87_r7
def f87_r8 : List MO := [
(Qa (Qv 19) (Qd (Qn 8))),
(Qa (Qv 7) (Qd (Qn 19)))]
def f87_c8 : MC := .reg false f87_r8
def f87_r9 : List MO := [
(Qa (Qv 20) (Qd (Qn 8))),
(Qa (Qv 21) (Qd (Qn 6))),
(Qa (Qv 22) (Qe Qt Go.BinOp.add (Qn 20) (Qn 21))),
(Qa (Qv 8) (Qd (Qn 22)))]
def f87_c9 : MC := .reg false f87_r9
def f87_c10 : MC := .seq f87_c8 f87_c9
def f87_c11 : MC := .seq f87_c7 f87_c10
def f87_c12 : MC := .blk 1 f87_c11
def f87_c13 : MC := .seq f87_c6 f87_c12
def f87_c14 : MC := .loop f87_c13
def f87_c15 : MC := .blk 0 f87_c14
def f87_r16 : List MO := [
(Qa (Qv 23) (Qd (Qn 0))),
(Qa (Qv 24) (Qd (Qn 7))),
(Qa (Qv 25) (Qd (Qn 1))),
(Qa (Qv 26) (Qd (Qn 2))),
(Qa (Qv 27) (Qh 98 [(Qn 23), (Qn 24), (Qn 25), (Qn 26)]))]
def f87_c16 : MC := .reg false f87_r16
def f87_r17 : List MO := [
(Qa (Qv 28) (Qd (Qn 6))),
(Qa (Qv 29) (Qd (Qn 1))),
(Qa (Qv 30) (Qe Qt Go.BinOp.lss (Qn 28) (Qn 29)))]
def f87_c17 : MC := .reg false f87_r17
def f87_c18 : MC := MC.skip
def f87_c19 : MC := (MC.exit 2)
def f87_c20 : MC := .cond (Qn 30) f87_c18 f87_c19
def f87_c21 : MC := .seq f87_c17 f87_c20
def f87_r22 : List MO := [
(Qa (Qv 31) (Qd (Qn 6))),
(Qa (Qv 32) (Qe Qt Go.BinOp.mul (Qo (Qp (Qq (Qr Qu 2)))) (Qn 31))),
(Qa (Qv 7) (Qd (Qo (Qp (Qq (Qr Qu 0)))))),
(Qa (Qv 8) (Qd (Qn 32)))]
def f87_c22 : MC := .reg false f87_r22
def f87_r23 : List MO := [
(Qa (Qv 33) (Qd (Qn 8))),
(Qa (Qv 34) (Qd (Qn 1))),
(Qa (Qv 35) (Qe Qt Go.BinOp.leq (Qn 33) (Qn 34)))]
def f87_c23 : MC := .reg false f87_r23
def f87_c24 : MC := MC.skip
def f87_c25 : MC := (MC.exit 4)
def f87_c26 : MC := .cond (Qn 35) f87_c24 f87_c25
def f87_c27 : MC := .seq f87_c23 f87_c26
def f87_r28 : List MO := [
(Qa (Qv 36) (Qd (Qn 0))),
(Qa (Qv 37) (Qd (Qn 7))),
(Qa (Qv 38) (Qd (Qn 7))),
(Qa (Qv 39) (Qd (Qn 6))),
(Qa (Qv 40) (Qe Qt Go.BinOp.add (Qn 38) (Qn 39))),
(Qa (Qv 41) (Qd (Qn 8))),
(Qa (Qv 42) (Qd (Qn 2))),
(Qa (Qv 43) (Qh 99 [(Qn 36), (Qn 37), (Qn 40), (Qn 41), (Qn 42)]))]
def f87_c28 : MC := .reg false f87_r28
def f87_r29 : List MO := [
(Qa (Qv 44) (Qd (Qn 8))),
(Qa (Qv 7) (Qd (Qn 44)))]
def f87_c29 : MC := .reg false f87_r29
def f87_r30 : List MO := [
(Qa (Qv 45) (Qd (Qn 8))),
(Qa (Qv 46) (Qd (Qn 6))),
(Qa (Qv 47) (Qe Qt Go.BinOp.mul (Qo (Qp (Qq (Qr Qu 2)))) (Qn 46))),
(Qa (Qv 48) (Qe Qt Go.BinOp.add (Qn 45) (Qn 47))),
(Qa (Qv 8) (Qd (Qn 48)))]
def f87_c30 : MC := .reg false f87_r30
def f87_c31 : MC := .seq f87_c29 f87_c30
def f87_c32 : MC := .seq f87_c28 f87_c31
def f87_c33 : MC := .blk 5 f87_c32
def f87_c34 : MC := .seq f87_c27 f87_c33
def f87_c35 : MC := .loop f87_c34
def f87_c36 : MC := .blk 4 f87_c35
def f87_r37 : List MO := [
(Qa (Qv 49) (Qd (Qn 7))),
(Qa (Qv 50) (Qd (Qn 6))),
(Qa (Qv 51) (Qe Qt Go.BinOp.add (Qn 49) (Qn 50))),
(Qa (Qv 9) (Qd (Qn 51)))]
def f87_c37 : MC := .reg false f87_r37
def f87_r38 : List MO := [
(Qa (Qv 52) (Qd (Qn 9))),
(Qa (Qv 53) (Qd (Qn 1))),
(Qa (Qv 54) (Qe Qt Go.BinOp.lss (Qn 52) (Qn 53)))]
def f87_c38 : MC := .reg false f87_r38
def f87_r39 : List MO := [
(Qa (Qv 55) (Qd (Qn 0))),
(Qa (Qv 56) (Qd (Qn 7))),
(Qa (Qv 57) (Qd (Qn 9))),
(Qa (Qv 58) (Qd (Qn 1))),
(Qa (Qv 59) (Qd (Qn 2))),
(Qa (Qv 60) (Qh 99 [(Qn 55), (Qn 56), (Qn 57), (Qn 58), (Qn 59)]))]
def f87_c39 : MC := .reg false f87_r39
def f87_c40 : MC := MC.skip
def f87_c41 : MC := .cond (Qn 54) f87_c39 f87_c40
def f87_c42 : MC := .seq f87_c38 f87_c41
def f87_c43 : MC := .seq f87_c37 f87_c42
def f87_r44 : List MO := [
(Qa (Qv 61) (Qd (Qn 6))),
(Qa (Qv 62) (Qe Qt Go.BinOp.mul (Qn 61) (Qo (Qp (Qq (Qr Qu 2)))))),
(Qa (Qv 6) (Qd (Qn 62)))]
def f87_c44 : MC := .reg false f87_r44
def f87_c45 : MC := .seq f87_c43 f87_c44
def f87_c46 : MC := .seq f87_c36 f87_c45
def f87_c47 : MC := .seq f87_c22 f87_c46
def f87_c48 : MC := .blk 3 f87_c47
def f87_c49 : MC := .seq f87_c21 f87_c48
def f87_c50 : MC := .loop f87_c49
def f87_c51 : MC := .blk 2 f87_c50
def f87_c52 : MC := .seq f87_c16 f87_c51
def f87_c53 : MC := .seq f87_c15 f87_c52
def f87_c54 : MC := .seq f87_c1 f87_c53
def f87_c55 : MC := .seq f87_c0 f87_c54
noncomputable def f87_code : Code := (Go.Proofs.Tryz.f87.body).getD .skip
theorem f87_body : Go.Proofs.Tryz.f87.body = Qv f87_code := by kernel_rfl
theorem f87_tr : trC Go.Proofs.Tryz.prog [] f87_code = Qv f87_c55 := by kernel_rfl
theorem f87_rs : rsOf Go.Proofs.Tryz.prog Go.Proofs.Tryz.f87.results.toList = Qv [] := by kernel_rfl
theorem f87_nt : Go.Proofs.Tryz.f87.ntmps = 63 := by kernel_rfl
theorem f87_ok : callable Go.Proofs.Tryz.prog 87 = true := by kernel_rfl
theorem f87_in {gp : Heap} {args : List V} {res : V} (h : G ⟨Go.Proofs.Tryz.prog, gp, 0, [], fun r c => r = res ∧ c = [], false⟩ [.code f87_c55, .fin] ⟨args ++ List.replicate (63 - args.length) .un, []⟩) : Does Go.Proofs.Tryz.prog gp 87 args res :=
  does_intro f87_ok Go.Proofs.Tryz.func87 f87_body f87_tr f87_rs (by rw [f87_nt]; exact h)
theorem f87_tri {gp : Heap} {args : List V} {pre : List Ch} {R : V → List Ch → Prop} (h : G ⟨Go.Proofs.Tryz.prog, gp, pre.length, [], R, false⟩ [.code f87_c55, .fin] ⟨args ++ List.replicate (63 - args.length) .un, pre⟩) : Tri Go.Proofs.Tryz.prog gp 87 args pre R :=
  tri_intro Go.Proofs.Tryz.func87 f87_body f87_tr f87_rs (by rw [f87_nt]; exact h)
def f88_r0 : List MO := [
(Qa (Qv 2) (Qd (Qo (Qp (Qq (Qr Qu 0))))))]
def f88_c0 : MC := .reg false f88_r0
def f88_r1 : List MO := [
(Qa (Qv 3) (Qd (Qo (Qp (Qq (Qr Qu 0))))))]
def f88_c1 : MC := .reg false f88_r1
def f88_r2 : List MO := [
(Qa (Qv 6) (Qd (Qn 0))),
(Qa (Qv 7) (Qk Qt (Qn 6))),
(Qa (Qv 8) (Qd (Qo (Qp (Qq (Qr Qu 0))))))]
def f88_c2 : MC := .reg false f88_r2
def f88_r3 : List MO := [
(Qa (Qv 9) (Qe Qt Go.BinOp.lss (Qn 8) (Qn 7)))]
def f88_c3 : MC := .reg false f88_r3
def f88_c4 : MC := MC.skip
def f88_c5 : MC := (MC.exit 0)
def f88_c6 : MC := .cond (Qn 9) f88_c4 f88_c5
def f88_r7 : List MO := [
(Qa (Qv 10) (Qj 1 (Qn 6) (Qn 8))),
(Qa (Qv 11) (Qf 1 false (Qn 10))),
(Qa (Qv 5) (Qd (Qn 11)))]
def f88_c7 : MC := .reg false f88_r7
def f88_r8 : List MO := [
(Qa (Qv 12) (Qd (Qn 5))),
(Qa (Qv 13) (Qd (Qn 3))),
(Qa (Qv 14) (Qe Qt Go.BinOp.neq (Qn 12) (Qn 13)))]
def f88_c8 : MC := .reg false f88_r8
def f88_r9 : List MO := [
(Qa (Qv 15) (Qd (Qn 5))),
(Qa (Qv 2) (Qd (Qn 15)))]
def f88_c9 : MC := .reg false f88_r9
def f88_c10 : MC := MC.ret
def f88_c11 : MC := .seq f88_c9 f88_c10
def f88_c12 : MC := MC.skip
def f88_c13 : MC := .cond (Qn 14) f88_c11 f88_c12
def f88_c14 : MC := .seq f88_c8 f88_c13
def f88_c15 : MC := .seq f88_c7 f88_c14
def f88_c16 : MC := .blk 1 f88_c15
def f88_r17 : List MO := [
(Qa (Qv 16) (Qe Qt Go.BinOp.add (Qn 8) (Qo (Qp (Qq (Qr Qu 1)))))),
(Qa (Qv 8) (Qd (Qn 16)))]
def f88_c17 : MC := .reg false f88_r17
def f88_c18 : MC := .seq f88_c16 f88_c17
def f88_c19 : MC := .seq f88_c6 f88_c18
def f88_c20 : MC := .seq f88_c3 f88_c19
def f88_c21 : MC := .loop f88_c20
def f88_c22 : MC := .blk 0 f88_c21
def f88_c23 : MC := .seq f88_c2 f88_c22
def f88_r24 : List MO := [
(Qa (Qv 17) (Qd (Qn 3))),
(Qa (Qv 2) (Qd (Qn 17)))]
def f88_c24 : MC := .reg false f88_r24
def f88_c25 : MC := MC.ret
def f88_c26 : MC := .seq f88_c24 f88_c25
def f88_c27 : MC := .seq f88_c23 f88_c26
def f88_c28 : MC := .seq f88_c1 f88_c27
def f88_c29 : MC := .seq f88_c0 f88_c28
noncomputable def f88_code : Code := (Go.Proofs.Tryz.f88.body).getD .skip
theorem f88_body : Go.Proofs.Tryz.f88.body = Qv f88_code := by kernel_rfl
theorem f88_tr : trC Go.Proofs.Tryz.prog [] f88_code = Qv f88_c29 := by kernel_rfl
theorem f88_rs : rsOf Go.Proofs.Tryz.prog Go.Proofs.Tryz.f88.results.toList = Qv [(RV.t 2)] := by kernel_rfl
theorem f88_nt : Go.Proofs.Tryz.f88.ntmps = 18 := by kernel_rfl
theorem f88_ok : callable Go.Proofs.Tryz.prog 88 = true := by kernel_rfl
theorem f88_in {gp : Heap} {args : List V} {res : V} (h : G ⟨Go.Proofs.Tryz.prog, gp, 0, [(RV.t 2)], fun r c => r = res ∧ c = [], false⟩ [.code f88_c29, .fin] ⟨args ++ List.replicate (18 - args.length) .un, []⟩) : Does Go.Proofs.Tryz.prog gp 88 args res :=
  does_intro f88_ok Go.Proofs.Tryz.func88 f88_body f88_tr f88_rs (by rw [f88_nt]; exact h)
theorem f88_tri {gp : Heap} {args : List V} {pre : List Ch} {R : V → List Ch → Prop} (h : G ⟨Go.Proofs.Tryz.prog, gp, pre.length, [(RV.t 2)], R, false⟩ [.code f88_c29, .fin] ⟨args ++ List.replicate (18 - args.length) .un, pre⟩) : Tri Go.Proofs.Tryz.prog gp 88 args pre R :=
  tri_intro Go.Proofs.Tryz.func88 f88_body f88_tr f88_rs (by rw [f88_nt]; exact h)
def f89_r0 : List MO := [
(Qa (Qv 4) (Qd (Qo (Qp (Qq (Qr Qu 0))))))]
def f89_c0 : MC := .reg false f89_r0
def f89_r1 : List MO := [
(Qa (Qv 7) (Qd (Qn 0))),
(Qa (Qv 8) (Qh 100 [(Qn 7)])),
(Qa (Qv 5) (Qd (Qn 8)))]
def f89_c1 : MC := .reg false f89_r1
def f89_r2 : List MO := [
(Qa (Qv 9) (Qd (Qn 1))),
(Qa (Qv 10) (Qh 100 [(Qn 9)])),
(Qa (Qv 6) (Qd (Qn 10)))]
def f89_c2 : MC := .reg false f89_r2
def f89_r3 : List MO := [
(Qa (Qv 11) (Qd (Qn 5)))]
def f89_c3 : MC := .reg false f89_r3
def f89_r4 : List MO := [
(Qa (Qv 12) (Qd (Qn 6)))]
def f89_c4 : MC := .reg false f89_r4
def f89_r5 : List MO := [
(Qa (Qv 4) (Qd (Qo (Qp (Qq (Qr Qu 0))))))]
def f89_c5 : MC := .reg false f89_r5
def f89_c6 : MC := MC.ret
def f89_c7 : MC := .seq f89_c5 f89_c6
def f89_c8 : MC := MC.skip
def f89_c9 : MC := .cond (Qn 12) f89_c7 f89_c8
def f89_c10 : MC := .seq f89_c4 f89_c9
def f89_r11 : List MO := [
(Qa (Qv 4) (Qd (Qo (Qp (Qq (Qr Qu (-1)))))))]
def f89_c11 : MC := .reg false f89_r11
def f89_c12 : MC := MC.ret
def f89_c13 : MC := .seq f89_c11 f89_c12
def f89_c14 : MC := .seq f89_c10 f89_c13
def f89_c15 : MC := MC.skip
def f89_c16 : MC := .cond (Qn 11) f89_c14 f89_c15
def f89_c17 : MC := .seq f89_c3 f89_c16
def f89_r18 : List MO := [
(Qa (Qv 13) (Qd (Qn 6)))]
def f89_c18 : MC := .reg false f89_r18
def f89_r19 : List MO := [
(Qa (Qv 4) (Qd (Qo (Qp (Qq (Qr Qu 1))))))]
def f89_c19 : MC := .reg false f89_r19
def f89_c20 : MC := MC.ret
def f89_c21 : MC := .seq f89_c19 f89_c20
def f89_c22 : MC := MC.skip
def f89_c23 : MC := .cond (Qn 13) f89_c21 f89_c22
def f89_c24 : MC := .seq f89_c18 f89_c23
def f89_r25 : List MO := [
(Qa (Qv 14) (Qd (Qn 0))),
(Qa (Qv 15) (Qd (Qn 1))),
(Qa (Qv 16) (Qe Qt Go.BinOp.lss (Qn 14) (Qn 15)))]
def f89_c25 : MC := .reg false f89_r25
def f89_r26 : List MO := [
(Qa (Qv 4) (Qd (Qo (Qp (Qq (Qr Qu (-1)))))))]
def f89_c26 : MC := .reg false f89_r26
def f89_c27 : MC := MC.ret
def f89_c28 : MC := .seq f89_c26 f89_c27
def f89_c29 : MC := MC.skip
def f89_c30 : MC := .cond (Qn 16) f89_c28 f89_c29
def f89_c31 : MC := .seq f89_c25 f89_c30
def f89_r32 : List MO := [
(Qa (Qv 17) (Qd (Qn 0))),
(Qa (Qv 18) (Qd (Qn 1))),
(Qa (Qv 19) (Qe Qt Go.BinOp.gtr (Qn 17) (Qn 18)))]
def f89_c32 : MC := .reg false f89_r32
def f89_r33 : List MO := [
(Qa (Qv 4) (Qd (Qo (Qp (Qq (Qr Qu 1))))))]
def f89_c33 : MC := .reg false f89_r33
def f89_c34 : MC := MC.ret
def f89_c35 : MC := .seq f89_c33 f89_c34
def f89_c36 : MC := MC.skip
def f89_c37 : MC := .cond (Qn 19) f89_c35 f89_c36
def f89_c38 : MC := .seq f89_c32 f89_c37
def f89_r39 : List MO := [
(Qa (Qv 4) (Qd (Qo (Qp (Qq (Qr Qu 0))))))]
def f89_c39 : MC := .reg false f89_r39
def f89_c40 : MC := MC.ret
def f89_c41 : MC := .seq f89_c39 f89_c40
def f89_c42 : MC := .seq f89_c38 f89_c41
def f89_c43 : MC := .seq f89_c31 f89_c42
def f89_c44 : MC := .seq f89_c24 f89_c43
def f89_c45 : MC := .seq f89_c17 f89_c44
def f89_c46 : MC := .seq f89_c2 f89_c45
def f89_c47 : MC := .seq f89_c1 f89_c46
def f89_c48 : MC := .seq f89_c0 f89_c47
noncomputable def f89_code : Code := (Go.Proofs.Tryz.f89.body).getD .skip
theorem f89_body : Go.Proofs.Tryz.f89.body = Qv f89_code := by kernel_rfl
theorem f89_tr : trC Go.Proofs.Tryz.prog [] f89_code = Qv f89_c48 := by kernel_rfl
theorem f89_rs : rsOf Go.Proofs.Tryz.prog Go.Proofs.Tryz.f89.results.toList = Qv [(RV.t 4)] := by kernel_rfl
theorem f89_nt : Go.Proofs.Tryz.f89.ntmps = 20 := by kernel_rfl
theorem f89_ok : callable Go.Proofs.Tryz.prog 89 = true := by kernel_rfl
theorem f89_in {gp : Heap} {args : List V} {res : V} (h : G ⟨Go.Proofs.Tryz.prog, gp, 0, [(RV.t 4)], fun r c => r = res ∧ c = [], false⟩ [.code f89_c48, .fin] ⟨args ++ List.replicate (20 - args.length) .un, []⟩) : Does Go.Proofs.Tryz.prog gp 89 args res :=
  does_intro f89_ok Go.Proofs.Tryz.func89 f89_body f89_tr f89_rs (by rw [f89_nt]; exact h)
theorem f89_tri {gp : Heap} {args : List V} {pre : List Ch} {R : V → List Ch → Prop} (h : G ⟨Go.Proofs.Tryz.prog, gp, pre.length, [(RV.t 4)], R, false⟩ [.code f89_c48, .fin] ⟨args ++ List.replicate (20 - args.length) .un, pre⟩) : Tri Go.Proofs.Tryz.prog gp 89 args pre R :=
  tri_intro Go.Proofs.Tryz.func89 f89_body f89_tr f89_rs (by rw [f89_nt]; exact h)
def f90_r0 : List MO := [
(Qa (Qv 4) (Qd (Qo (Qp (Qq (Qr Qu 0))))))]
def f90_c0 : MC := .reg false f90_r0
def f90_r1 : List MO := [
(Qa (Qv 7) (Qd (Qn 0))),
(Qa (Qv 8) (Qh 101 [(Qn 7)])),
(Qa (Qv 5) (Qd (Qn 8)))]
def f90_c1 : MC := .reg false f90_r1
def f90_r2 : List MO := [
(Qa (Qv 9) (Qd (Qn 1))),
(Qa (Qv 10) (Qh 101 [(Qn 9)])),
(Qa (Qv 6) (Qd (Qn 10)))]
def f90_c2 : MC := .reg false f90_r2
def f90_r3 : List MO := [
(Qa (Qv 11) (Qd (Qn 5)))]
def f90_c3 : MC := .reg false f90_r3
def f90_r4 : List MO := [
(Qa (Qv 12) (Qd (Qn 6)))]
def f90_c4 : MC := .reg false f90_r4
def f90_r5 : List MO := [
(Qa (Qv 4) (Qd (Qo (Qp (Qq (Qr Qu 0))))))]
def f90_c5 : MC := .reg false f90_r5
def f90_c6 : MC := MC.ret
def f90_c7 : MC := .seq f90_c5 f90_c6
def f90_c8 : MC := MC.skip
def f90_c9 : MC := .cond (Qn 12) f90_c7 f90_c8
def f90_c10 : MC := .seq f90_c4 f90_c9
def f90_r11 : List MO := [
(Qa (Qv 4) (Qd (Qo (Qp (Qq (Qr Qu (-1)))))))]
def f90_c11 : MC := .reg false f90_r11
def f90_c12 : MC := MC.ret
def f90_c13 : MC := .seq f90_c11 f90_c12
def f90_c14 : MC := .seq f90_c10 f90_c13
def f90_c15 : MC := MC.skip
def f90_c16 : MC := .cond (Qn 11) f90_c14 f90_c15
def f90_c17 : MC := .seq f90_c3 f90_c16
def f90_r18 : List MO := [
(Qa (Qv 13) (Qd (Qn 6)))]
def f90_c18 : MC := .reg false f90_r18
def f90_r19 : List MO := [
(Qa (Qv 4) (Qd (Qo (Qp (Qq (Qr Qu 1))))))]
def f90_c19 : MC := .reg false f90_r19
def f90_c20 : MC := MC.ret
def f90_c21 : MC := .seq f90_c19 f90_c20
def f90_c22 : MC := MC.skip
def f90_c23 : MC := .cond (Qn 13) f90_c21 f90_c22
def f90_c24 : MC := .seq f90_c18 f90_c23
def f90_r25 : List MO := [
(Qa (Qv 14) (Qd (Qn 0))),
(Qa (Qv 15) (Qd (Qn 1))),
(Qa (Qv 16) (Qe Leaf.s Go.BinOp.lss (Qn 14) (Qn 15)))]
def f90_c25 : MC := .reg false f90_r25
def f90_r26 : List MO := [
(Qa (Qv 4) (Qd (Qo (Qp (Qq (Qr Qu (-1)))))))]
def f90_c26 : MC := .reg false f90_r26
def f90_c27 : MC := MC.ret
def f90_c28 : MC := .seq f90_c26 f90_c27
def f90_c29 : MC := MC.skip
def f90_c30 : MC := .cond (Qn 16) f90_c28 f90_c29
def f90_c31 : MC := .seq f90_c25 f90_c30
def f90_r32 : List MO := [
(Qa (Qv 17) (Qd (Qn 0))),
(Qa (Qv 18) (Qd (Qn 1))),
(Qa (Qv 19) (Qe Leaf.s Go.BinOp.gtr (Qn 17) (Qn 18)))]
def f90_c32 : MC := .reg false f90_r32
def f90_r33 : List MO := [
(Qa (Qv 4) (Qd (Qo (Qp (Qq (Qr Qu 1))))))]
def f90_c33 : MC := .reg false f90_r33
def f90_c34 : MC := MC.ret
def f90_c35 : MC := .seq f90_c33 f90_c34
def f90_c36 : MC := MC.skip
def f90_c37 : MC := .cond (Qn 19) f90_c35 f90_c36
def f90_c38 : MC := .seq f90_c32 f90_c37
def f90_r39 : List MO := [
(Qa (Qv 4) (Qd (Qo (Qp (Qq (Qr Qu 0))))))]
def f90_c39 : MC := .reg false f90_r39
def f90_c40 : MC := MC.ret
def f90_c41 : MC := .seq f90_c39 f90_c40
def f90_c42 : MC := .seq f90_c38 f90_c41
def f90_c43 : MC := .seq f90_c31 f90_c42
def f90_c44 : MC := .seq f90_c24 f90_c43
def f90_c45 : MC := .seq f90_c17 f90_c44
def f90_c46 : MC := .seq f90_c2 f90_c45
def f90_c47 : MC := .seq f90_c1 f90_c46
def f90_c48 : MC := .seq f90_c0 f90_c47
noncomputable def f90_code : Code := (Go.Proofs.Tryz.f90.body).getD .skip
theorem f90_body : Go.Proofs.Tryz.f90.body = Qv f90_code := by kernel_rfl
theorem f90_tr : trC Go.Proofs.Tryz.prog [] f90_code = Qv f90_c48 := by kernel_rfl
theorem f90_rs : rsOf Go.Proofs.Tryz.prog Go.Proofs.Tryz.f90.results.toList = Qv [(RV.t 4)] := by kernel_rfl
theorem f90_nt : Go.Proofs.Tryz.f90.ntmps = 20 := by kernel_rfl
theorem f90_ok : callable Go.Proofs.Tryz.prog 90 = true := by kernel_rfl
theorem f90_in {gp : Heap} {args : List V} {res : V} (h : G ⟨Go.Proofs.Tryz.prog, gp, 0, [(RV.t 4)], fun r c => r = res ∧ c = [], false⟩ [.code f90_c48, .fin] ⟨args ++ List.replicate (20 - args.length) .un, []⟩) : Does Go.Proofs.Tryz.prog gp 90 args res :=
  does_intro f90_ok Go.Proofs.Tryz.func90 f90_body f90_tr f90_rs (by rw [f90_nt]; exact h)
theorem f90_tri {gp : Heap} {args : List V} {pre : List Ch} {R : V → List Ch → Prop} (h : G ⟨Go.Proofs.Tryz.prog, gp, pre.length, [(RV.t 4)], R, false⟩ [.code f90_c48, .fin] ⟨args ++ List.replicate (20 - args.length) .un, pre⟩) : Tri Go.Proofs.Tryz.prog gp 90 args pre R :=
  tri_intro Go.Proofs.Tryz.func90 f90_body f90_tr f90_rs (by rw [f90_nt]; exact h)
def f94_r0 : List MO := [
(Qa (Qv 2) (Qd (Qo (Qp (Qq (Qs false))))))]
def f94_c0 : MC := .reg false f94_r0
def f94_r1 : List MO := [
(Qa (Qv 3) (Qd (Qn 0))),
(Qa (Qv 4) (Qh 102 [(Qn 3), (Qo (Qp (Qq (Qs false))))])),
(Qa (Qv 5) (MOp.not (Qn 4))),
(Qa (Qv 2) (Qd (Qn 5)))]
def f94_c1 : MC := .reg false f94_r1
def f94_c2 : MC := MC.ret
def f94_c3 : MC := .seq f94_c1 f94_c2
def f94_c4 : MC := .seq f94_c0 f94_c3
noncomputable def f94_code : Code := (Go.Proofs.Tryz.f94.body).getD .skip
theorem f94_body : Go.Proofs.Tryz.f94.body = Qv f94_code := by kernel_rfl
theorem f94_tr : trC Go.Proofs.Tryz.prog [] f94_code = Qv f94_c4 := by kernel_rfl
theorem f94_rs : rsOf Go.Proofs.Tryz.prog Go.Proofs.Tryz.f94.results.toList = Qv [(RV.t 2)] := by kernel_rfl
theorem f94_nt : Go.Proofs.Tryz.f94.ntmps = 6 := by kernel_rfl
theorem f94_ok : callable Go.Proofs.Tryz.prog 94 = true := by kernel_rfl
theorem f94_in {gp : Heap} {args : List V} {res : V} (h : G ⟨Go.Proofs.Tryz.prog, gp, 0, [(RV.t 2)], fun r c => r = res ∧ c = [], false⟩ [.code f94_c4, .fin] ⟨args ++ List.replicate (6 - args.length) .un, []⟩) : Does Go.Proofs.Tryz.prog gp 94 args res :=
  does_intro f94_ok Go.Proofs.Tryz.func94 f94_body f94_tr f94_rs (by rw [f94_nt]; exact h)
theorem f94_tri {gp : Heap} {args : List V} {pre : List Ch} {R : V → List Ch → Prop} (h : G ⟨Go.Proofs.Tryz.prog, gp, pre.length, [(RV.t 2)], R, false⟩ [.code f94_c4, .fin] ⟨args ++ List.replicate (6 - args.length) .un, pre⟩) : Tri Go.Proofs.Tryz.prog gp 94 args pre R :=
  tri_intro Go.Proofs.Tryz.func94 f94_body f94_tr f94_rs (by rw [f94_nt]; exact h)
def f95_r0 : List MO := [
(Qa (Qv 1) (MOp.ibox (Qn 0))),
(Qa (Qv 2) (Qd (Qo (Qp (Qq (Qs false))))))]
def f95_c0 : MC := .reg false f95_r0
def f95_r1 : List MO := [
(Qa (Qv 3) (Qg 0 (Qn 1))),
(Qa (Qv 4) (Qf 1 false (Qn 3)))]
def f95_c1 : MC := .reg false f95_r1
def f95_r2 : List MO := [
(Qa (Qv 6) (Qe Qt Go.BinOp.eql (Qn 4) (Qo (Qp (Qq (Qr Qu 0)))))),
(Qa (Qv 5) (Qd (Qn 6)))]
def f95_c2 : MC := .reg false f95_r2
def f95_r3 : List MO := [
(Qa (Qv 7) (Qf 3 true (Qn 1))),
(Qa (Qv 8) (MOp.build [(Qr Qu 0), (Qr Qu 0), (D.str (ByteArray.mk #[]))] [])),
(Qa (Qv 9) (MOp.eqs false [Qt, Qt, Leaf.s] (Qn 7) (Qn 8))),
(Qa (Qv 2) (Qd (Qn 9)))]
def f95_c3 : MC := .reg false f95_r3
def f95_c4 : MC := MC.ret
def f95_c5 : MC := .seq f95_c3 f95_c4
def f95_r6 : List MO := [
(Qa (Qv 11) (Qe Qt Go.BinOp.eql (Qn 4) (Qo (Qp (Qq (Qr Qu 1)))))),
(Qa (Qv 10) (Qd (Qn 11)))]
def f95_c6 : MC := .reg false f95_r6
def f95_r7 : List MO := [
(Qa (Qv 12) (Qg 2 (Qn 1))),
(Qa (Qv 13) (Qf 1 false (Qn 12))),
(Qa (Qv 14) (Qe Leaf.s Go.BinOp.eql (Qn 13) (Qo (Qp (Qq (D.str (ByteArray.mk #[]))))))),
(Qa (Qv 15) (Qd (Qn 14))),
(Qb 15 true (Qv 16)),
(Qa (Qv 16) (Qg 1 (Qn 1))),
(Qb 15 true (Qv 17)),
(Qa (Qv 17) (Qf 1 false (Qn 16))),
(Qb 15 true (Qv 18)),
(Qa (Qv 18) (Qe Qt Go.BinOp.eql (Qn 17) (Qo (Qp (Qq (Qr Qu 0)))))),
(Qb 15 true (Qv 19)),
(Qa (Qv 19) (Qd (Qn 18))),
(Qb 19 false (Qv 20)),
(Qa (Qv 20) (Qg 1 (Qn 1))),
(Qb 19 false (Qv 21)),
(Qa (Qv 21) (Qf 1 false (Qn 20))),
(Qb 19 false (Qv 22)),
(Qa (Qv 22) (Qe Qt Go.BinOp.eql (Qn 21) (Qo (Qp (Qq (Qr Qu 1)))))),
(Qb 15 true (Qv 23)),
(Qa (Qv 23) (Qm (Qn 19) (Qo (Qp (Qq (Qs true)))) (Qn 22))),
(Qa (Qv 24) (Qm (Qn 15) (Qn 23) (Qo (Qp (Qq (Qs false)))))),
(Qa (Qv 2) (Qd (Qn 24)))]
def f95_c7 : MC := .reg false f95_r7
def f95_c8 : MC := MC.ret
def f95_c9 : MC := .seq f95_c7 f95_c8
def f95_r10 : List MO := [
(Qa (Qv 26) (Qe Qt Go.BinOp.eql (Qn 4) (Qo (Qp (Qq (Qr Qu 2)))))),
(Qa (Qv 25) (Qd (Qn 26)))]
def f95_c10 : MC := .reg false f95_r10
def f95_r11 : List MO := [
(Qa (Qv 27) (Qg 2 (Qn 1))),
(Qa (Qv 28) (Qf 1 false (Qn 27))),
(Qa (Qv 29) (Qe Leaf.s Go.BinOp.eql (Qn 28) (Qo (Qp (Qq (D.str (ByteArray.mk #[]))))))),
(Qa (Qv 30) (Qd (Qn 29))),
(Qb 30 true (Qv 31)),
(Qa (Qv 31) (Qg 1 (Qn 1))),
(Qb 30 true (Qv 32)),
(Qa (Qv 32) (Qf 1 false (Qn 31))),
(Qb 30 true (Qv 33)),
(Qa (Qv 33) (Qe Qt Go.BinOp.geq (Qn 32) (Qo (Qp (Qq (Qr Qu (-999999999999999))))))),
(Qa (Qv 34) (Qm (Qn 30) (Qn 33) (Qo (Qp (Qq (Qs false)))))),
(Qa (Qv 35) (Qd (Qn 34))),
(Qb 35 true (Qv 36)),
(Qa (Qv 36) (Qg 1 (Qn 1))),
(Qb 35 true (Qv 37)),
(Qa (Qv 37) (Qf 1 false (Qn 36))),
(Qb 35 true (Qv 38)),
(Qa (Qv 38) (Qe Qt Go.BinOp.leq (Qn 37) (Qo (Qp (Qq (Qr Qu 999999999999999)))))),
(Qa (Qv 39) (Qm (Qn 35) (Qn 38) (Qo (Qp (Qq (Qs false)))))),
(Qa (Qv 2) (Qd (Qn 39)))]
def f95_c11 : MC := .reg false f95_r11
def f95_c12 : MC := MC.ret
def f95_c13 : MC := .seq f95_c11 f95_c12
def f95_r14 : List MO := [
(Qa (Qv 41) (Qe Qt Go.BinOp.eql (Qn 4) (Qo (Qp (Qq (Qr Qu 3)))))),
(Qa (Qv 40) (Qd (Qn 41)))]
def f95_c14 : MC := .reg false f95_r14
def f95_r15 : List MO := [
(Qa (Qv 42) (Qg 1 (Qn 1))),
(Qa (Qv 43) (Qf 1 false (Qn 42))),
(Qa (Qv 44) (Qe Qt Go.BinOp.eql (Qn 43) (Qo (Qp (Qq (Qr Qu 0)))))),
(Qa (Qv 45) (Qd (Qn 44))),
(Qb 45 true (Qv 46)),
(Qa (Qv 46) (Qg 2 (Qn 1))),
(Qb 45 true (Qv 47)),
(Qa (Qv 47) (Qf 1 false (Qn 46))),
(Qb 45 true (Qv 48)),
(Qa (Qv 48) (Qh 103 [(Qn 47)])),
(Qa (Qv 49) (Qm (Qn 45) (Qn 48) (Qo (Qp (Qq (Qs false)))))),
(Qa (Qv 2) (Qd (Qn 49)))]
def f95_c15 : MC := .reg false f95_r15
def f95_c16 : MC := MC.ret
def f95_c17 : MC := .seq f95_c15 f95_c16
def f95_c18 : MC := MC.skip
def f95_c19 : MC := .cond (Qn 40) f95_c17 f95_c18
def f95_c20 : MC := .seq f95_c14 f95_c19
def f95_c21 : MC := .cond (Qn 25) f95_c13 f95_c20
def f95_c22 : MC := .seq f95_c10 f95_c21
def f95_c23 : MC := .cond (Qn 10) f95_c9 f95_c22
def f95_c24 : MC := .seq f95_c6 f95_c23
def f95_c25 : MC := .cond (Qn 5) f95_c5 f95_c24
def f95_c26 : MC := .seq f95_c2 f95_c25
def f95_c27 : MC := .blk 0 f95_c26
def f95_c28 : MC := .seq f95_c1 f95_c27
def f95_r29 : List MO := [
(Qa (Qv 2) (Qd (Qo (Qp (Qq (Qs false))))))]
def f95_c29 : MC := .reg false f95_r29
def f95_c30 : MC := MC.ret
def f95_c31 : MC := .seq f95_c29 f95_c30
def f95_c32 : MC := .seq f95_c28 f95_c31
def f95_c33 : MC := .seq f95_c0 f95_c32
noncomputable def f95_code : Code := (Go.Proofs.Tryz.f95.body).getD .skip
theorem f95_body : Go.Proofs.Tryz.f95.body = Qv f95_code := by kernel_rfl
theorem f95_tr : trC Go.Proofs.Tryz.prog [1] f95_code = Qv f95_c33 := by kernel_rfl
theorem f95_rs : rsOf Go.Proofs.Tryz.prog Go.Proofs.Tryz.f95.results.toList = Qv [(RV.t 2)] := by kernel_rfl
theorem f95_nt : Go.Proofs.Tryz.f95.ntmps = 50 := by kernel_rfl
theorem f95_ok : callable Go.Proofs.Tryz.prog 95 = true := by kernel_rfl
theorem f95_in {gp : Heap} {args : List V} {res : V} (h : G ⟨Go.Proofs.Tryz.prog, gp, 0, [(RV.t 2)], fun r c => r = res ∧ c = [], false⟩ [.code f95_c33, .fin] ⟨args ++ List.replicate (50 - args.length) .un, []⟩) : Does Go.Proofs.Tryz.prog gp 95 args res :=
  does_intro f95_ok Go.Proofs.Tryz.func95 f95_body f95_tr f95_rs (by rw [f95_nt]; exact h)
theorem f95_tri {gp : Heap} {args : List V} {pre : List Ch} {R : V → List Ch → Prop} (h : G ⟨Go.Proofs.Tryz.prog, gp, pre.length, [(RV.t 2)], R, false⟩ [.code f95_c33, .fin] ⟨args ++ List.replicate (50 - args.length) .un, pre⟩) : Tri Go.Proofs.Tryz.prog gp 95 args pre R :=
  tri_intro Go.Proofs.Tryz.func95 f95_body f95_tr f95_rs (by rw [f95_nt]; exact h)
def f96_r0 : List MO := [
(Qa (Qv 1) (MOp.ibox (Qn 0))),
(Qa (Qv 2) (Qd (Qo (Qp (Qq (Qs false))))))]
def f96_c0 : MC := .reg false f96_r0
def f96_r1 : List MO := [
(Qa (Qv 4) (MOp.mkF (Go.Fn.func 104) [(Qn 1)])),
(Qa (Qv 3) (Qd (Qn 4)))]
def f96_c1 : MC := .reg false f96_r1
def f96_r2 : List MO := [
(Qa (Qv 5) (Qg 0 (Qn 1))),
(Qa (Qv 6) (Qg 5 (Qn 5))),
(Qa (Qv 7) (Qf 1 false (Qn 6))),
(Qa (Qv 8) (Qd (Qn 3))),
(Qa (Qv 9) (Qh 105 [(Qn 7), (Qn 8)])),
(Qa (Qv 10) (MOp.not (Qn 9))),
(Qa (Qv 2) (Qd (Qn 10)))]
def f96_c2 : MC := .reg false f96_r2
def f96_c3 : MC := MC.ret
def f96_c4 : MC := .seq f96_c2 f96_c3
def f96_c5 : MC := .seq f96_c1 f96_c4
def f96_c6 : MC := .seq f96_c0 f96_c5
noncomputable def f96_code : Code := (Go.Proofs.Tryz.f96.body).getD .skip
theorem f96_body : Go.Proofs.Tryz.f96.body = Qv f96_code := by kernel_rfl
theorem f96_tr : trC Go.Proofs.Tryz.prog [1] f96_code = Qv f96_c6 := by kernel_rfl
theorem f96_rs : rsOf Go.Proofs.Tryz.prog Go.Proofs.Tryz.f96.results.toList = Qv [(RV.t 2)] := by kernel_rfl
theorem f96_nt : Go.Proofs.Tryz.f96.ntmps = 11 := by kernel_rfl
theorem f96_ok : callable Go.Proofs.Tryz.prog 96 = true := by kernel_rfl
theorem f96_in {gp : Heap} {args : List V} {res : V} (h : G ⟨Go.Proofs.Tryz.prog, gp, 0, [(RV.t 2)], fun r c => r = res ∧ c = [], false⟩ [.code f96_c6, .fin] ⟨args ++ List.replicate (11 - args.length) .un, []⟩) : Does Go.Proofs.Tryz.prog gp 96 args res :=
  does_intro f96_ok Go.Proofs.Tryz.func96 f96_body f96_tr f96_rs (by rw [f96_nt]; exact h)
theorem f96_tri {gp : Heap} {args : List V} {pre : List Ch} {R : V → List Ch → Prop} (h : G ⟨Go.Proofs.Tryz.prog, gp, pre.length, [(RV.t 2)], R, false⟩ [.code f96_c6, .fin] ⟨args ++ List.replicate (11 - args.length) .un, pre⟩) : Tri Go.Proofs.Tryz.prog gp 96 args pre R :=
  tri_intro Go.Proofs.Tryz.func96 f96_body f96_tr f96_rs (by rw [f96_nt]; exact h)
def f97_r0 : List MO := [
(Qa (Qv 1) (MOp.ibox (Qn 0))),
(Qa (Qv 2) (Qd (Qo (Qp (Qq (Qs false))))))]
def f97_c0 : MC := .reg false f97_r0
def f97_r1 : List MO := [
(Qa (Qv 3) (Qd (Qo (Qp (Qq (D.fn (Go.Fn.func 106) []))))))]
def f97_c1 : MC := .reg false f97_r1
def f97_r2 : List MO := [
(Qa (Qv 4) (Qg 0 (Qn 1))),
(Qa (Qv 5) (Qg 4 (Qn 4))),
(Qa (Qv 6) (Qf 1 false (Qn 5))),
(Qa (Qv 7) (Qd (Qn 3))),
(Qa (Qv 8) (Qh 107 [(Qn 6), (Qn 7)])),
(Qa (Qv 9) (MOp.not (Qn 8))),
(Qa (Qv 10) (Qd (Qn 9))),
(Qb 10 true (Qv 11)),
(Qa (Qv 11) (Qg 0 (Qn 1))),
(Qb 10 true (Qv 12)),
(Qa (Qv 12) (Qg 4 (Qn 11))),
(Qb 10 true (Qv 13)),
(Qa (Qv 13) (Qf 1 false (Qn 12))),
(Qb 10 true (Qv 14)),
(Qa (Qv 14) (Qh 108 [(Qn 13)])),
(Qb 10 true (Qv 15)),
(Qa (Qv 15) (MOp.not (Qn 14))),
(Qa (Qv 16) (Qm (Qn 10) (Qn 15) (Qo (Qp (Qq (Qs false)))))),
(Qa (Qv 2) (Qd (Qn 16)))]
def f97_c2 : MC := .reg false f97_r2
def f97_c3 : MC := MC.ret
def f97_c4 : MC := .seq f97_c2 f97_c3
def f97_c5 : MC := .seq f97_c1 f97_c4
def f97_c6 : MC := .seq f97_c0 f97_c5
noncomputable def f97_code : Code := (Go.Proofs.Tryz.f97.body).getD .skip
theorem f97_body : Go.Proofs.Tryz.f97.body = Qv f97_code := by kernel_rfl
theorem f97_tr : trC Go.Proofs.Tryz.prog [1] f97_code = Qv f97_c6 := by kernel_rfl
theorem f97_rs : rsOf Go.Proofs.Tryz.prog Go.Proofs.Tryz.f97.results.toList = Qv [(RV.t 2)] := by kernel_rfl
theorem f97_nt : Go.Proofs.Tryz.f97.ntmps = 17 := by kernel_rfl
theorem f97_ok : callable Go.Proofs.Tryz.prog 97 = true := by kernel_rfl
theorem f97_in {gp : Heap} {args : List V} {res : V} (h : G ⟨Go.Proofs.Tryz.prog, gp, 0, [(RV.t 2)], fun r c => r = res ∧ c = [], false⟩ [.code f97_c6, .fin] ⟨args ++ List.replicate (17 - args.length) .un, []⟩) : Does Go.Proofs.Tryz.prog gp 97 args res :=
  does_intro f97_ok Go.Proofs.Tryz.func97 f97_body f97_tr f97_rs (by rw [f97_nt]; exact h)
theorem f97_tri {gp : Heap} {args : List V} {pre : List Ch} {R : V → List Ch → Prop} (h : G ⟨Go.Proofs.Tryz.prog, gp, pre.length, [(RV.t 2)], R, false⟩ [.code f97_c6, .fin] ⟨args ++ List.replicate (17 - args.length) .un, pre⟩) : Tri Go.Proofs.Tryz.prog gp 97 args pre R :=
  tri_intro Go.Proofs.Tryz.func97 f97_body f97_tr f97_rs (by rw [f97_nt]; exact h)
def f98_r0 : List MO := [
(Qa (Qv 10) (Qd (Qn 1))),
(Qa (Qv 11) (Qe Qt Go.BinOp.add (Qn 10) (Qo (Qp (Qq (Qr Qu 1)))))),
(Qa (Qv 8) (Qd (Qn 11)))]
def f98_c0 : MC := .reg false f98_r0
def f98_r1 : List MO := [
(Qa (Qv 12) (Qd (Qn 8))),
(Qa (Qv 13) (Qd (Qn 2))),
(Qa (Qv 14) (Qe Qt Go.BinOp.lss (Qn 12) (Qn 13)))]
def f98_c1 : MC := .reg false f98_r1
def f98_c2 : MC := MC.skip
def f98_c3 : MC := (MC.exit 0)
def f98_c4 : MC := .cond (Qn 14) f98_c2 f98_c3
def f98_c5 : MC := .seq f98_c1 f98_c4
def f98_r6 : List MO := [
(Qa (Qv 17) (Qd (Qn 8))),
(Qa (Qv 9) (Qd (Qn 17)))]
def f98_c6 : MC := .reg false f98_r6
def f98_r7 : List MO := [
(Qa (Qv 18) (Qd (Qn 9))),
(Qa (Qv 19) (Qd (Qn 1))),
(Qa (Qv 20) (Qe Qt Go.BinOp.gtr (Qn 18) (Qn 19))),
(Qa (Qv 21) (Qd (Qn 20))),
(Qb 21 true (Qv 22)),
(Qa (Qv 22) (Qd (Qn 3))),
(Qb 21 true (Qv 23)),
(Qa (Qv 23) (Qd (Qn 0))),
(Qb 21 true (Qv 24)),
(Qa (Qv 24) (Qd (Qn 9))),
(Qb 21 true (Qv 25)),
(Qa (Qv 25) (Qj 4 (Qn 23) (Qn 24))),
(Qb 21 true (Qv 26)),
(Qa (Qv 26) (Qf 4 true (Qn 25))),
(Qb 21 true (Qv 27)),
(Qa (Qv 27) (Qd (Qn 0))),
(Qb 21 true (Qv 28)),
(Qa (Qv 28) (Qd (Qn 9))),
(Qb 21 true (Qv 29)),
(Qa (Qv 29) (Qe Qt Go.BinOp.sub (Qn 28) (Qo (Qp (Qq (Qr Qu 1)))))),
(Qb 21 true (Qv 30)),
(Qa (Qv 30) (Qj 4 (Qn 27) (Qn 29))),
(Qb 21 true (Qv 31)),
(Qa (Qv 31) (Qf 4 true (Qn 30))),
(Qb 21 true (Qv 32)),
(Qc (Qv 32) (MOp.callv (Qn 22) [(Qn 26), (Qn 31)])),
(Qb 21 true (Qv 33)),
(Qa (Qv 33) (Qe Qt Go.BinOp.lss (Qn 32) (Qo (Qp (Qq (Qr Qu 0)))))),
(Qa (Qv 34) (Qm (Qn 21) (Qn 33) (Qo (Qp (Qq (Qs false))))))]
def f98_c7 : MC := .reg true f98_r7
def f98_c8 : MC := MC.skip
def f98_c9 : MC := (MC.exit 2)
def f98_c10 : MC := .cond (Qn 34) f98_c8 f98_c9
def f98_c11 : MC := .seq f98_c7 f98_c10
def f98_r12 : List MO := [
(Qa (Qv 37) (Qd (Qn 0))),
(Qa (Qv 38) (Qd (Qn 9))),
(Qa (Qv 39) (Qd (Qn 0))),
(Qa (Qv 40) (Qd (Qn 9))),
(Qa (Qv 41) (Qe Qt Go.BinOp.sub (Qn 40) (Qo (Qp (Qq (Qr Qu 1)))))),
(Qa (Qv 42) (Qd (Qn 0))),
(Qa (Qv 43) (Qd (Qn 9))),
(Qa (Qv 44) (Qe Qt Go.BinOp.sub (Qn 43) (Qo (Qp (Qq (Qr Qu 1)))))),
(Qa (Qv 45) (Qj 4 (Qn 42) (Qn 44))),
(Qa (Qv 46) (Qf 4 true (Qn 45))),
(Qa (Qv 47) (Qd (Qn 0))),
(Qa (Qv 48) (Qd (Qn 9))),
(Qa (Qv 49) (Qj 4 (Qn 47) (Qn 48))),
(Qa (Qv 50) (Qf 4 true (Qn 49))),
(Qa (Qv 51) (Qj 4 (Qn 37) (Qn 38))),
(Qa none (Ql 4 (Qn 51) (Qn 46))),
(Qa (Qv 52) (Qj 4 (Qn 39) (Qn 41))),
(Qa none (Ql 4 (Qn 52) (Qn 50)))]
def f98_c12 : MC := .reg true f98_r12
def f98_c13 : MC := .blk 3 f98_c12
def f98_r14 : List MO := [
(Qa (Qv 35) (Qd (Qn 9))),
(Qa (Qv 36) (Qe Qt Go.BinOp.sub (Qn 35) (Qo (Qp (Qq (Qr Qu 1)))))),
(Qa (Qv 9) (Qd (Qn 36)))]
def f98_c14 : MC := .reg false f98_r14
def f98_c15 : MC := .seq f98_c13 f98_c14
def f98_c16 : MC := .seq f98_c11 f98_c15
def f98_c17 : MC := .loop f98_c16
def f98_c18 : MC := .blk 2 f98_c17
def f98_c19 : MC := .seq f98_c6 f98_c18
def f98_c20 : MC := .blk 1 f98_c19
def f98_r21 : List MO := [
(Qa (Qv 15) (Qd (Qn 8))),
(Qa (Qv 16) (Qe Qt Go.BinOp.add (Qn 15) (Qo (Qp (Qq (Qr Qu 1)))))),
(Qa (Qv 8) (Qd (Qn 16)))]
def f98_c21 : MC := .reg false f98_r21
def f98_c22 : MC := .seq f98_c20 f98_c21
def f98_c23 : MC := .seq f98_c5 f98_c22
def f98_c24 : MC := .loop f98_c23
def f98_c25 : MC := .blk 0 f98_c24
def f98_c26 : MC := .seq f98_c0 f98_c25
noncomputable def f98_code : Code := (Go.Proofs.Tryz.f98.body).getD .skip
theorem f98_body : Go.Proofs.Tryz.f98.body = Qv f98_code := by kernel_rfl
theorem f98_tr : trC Go.Proofs.Tryz.prog [] f98_code = Qv f98_c26 := by kernel_rfl
theorem f98_rs : rsOf Go.Proofs.Tryz.prog Go.Proofs.Tryz.f98.results.toList = Qv [] := by kernel_rfl
theorem f98_nt : Go.Proofs.Tryz.f98.ntmps = 53 := by kernel_rfl
theorem f98_ok : callable Go.Proofs.Tryz.prog 98 = true := by kernel_rfl
theorem f98_in {gp : Heap} {args : List V} {res : V} (h : G ⟨Go.Proofs.Tryz.prog, gp, 0, [], fun r c => r = res ∧ c = [], false⟩ [.code f98_c26, .fin] ⟨args ++ List.replicate (53 - args.length) .un, []⟩) : Does Go.Proofs.Tryz.prog gp 98 args res :=
  does_intro f98_ok Go.Proofs.Tryz.func98 f98_body f98_tr f98_rs (by rw [f98_nt]; exact h)
theorem f98_tri {gp : Heap} {args : List V} {pre : List Ch} {R : V → List Ch → Prop} (h : G ⟨Go.Proofs.Tryz.prog, gp, pre.length, [], R, false⟩ [.code f98_c26, .fin] ⟨args ++ List.replicate (53 - args.length) .un, pre⟩) : Tri Go.Proofs.Tryz.prog gp 98 args pre R :=
  tri_intro Go.Proofs.Tryz.func98 f98_body f98_tr f98_rs (by rw [f98_nt]; exact h)
def f100_r0 : List MO := [
(Qa (Qv 2) (Qd (Qo (Qp (Qq (Qs false))))))]
def f100_c0 : MC := .reg false f100_r0
def f100_r1 : List MO := [
(Qa (Qv 3) (Qd (Qn 0))),
(Qa (Qv 4) (Qd (Qn 0))),
(Qa (Qv 5) (Qe Qt Go.BinOp.neq (Qn 3) (Qn 4))),
(Qa (Qv 2) (Qd (Qn 5)))]
def f100_c1 : MC := .reg false f100_r1
def f100_c2 : MC := MC.ret
def f100_c3 : MC := .seq f100_c1 f100_c2
def f100_c4 : MC := .seq f100_c0 f100_c3
noncomputable def f100_code : Code := (Go.Proofs.Tryz.f100.body).getD .skip
theorem f100_body : Go.Proofs.Tryz.f100.body = Qv f100_code := by kernel_rfl
theorem f100_tr : trC Go.Proofs.Tryz.prog [] f100_code = Qv f100_c4 := by kernel_rfl
theorem f100_rs : rsOf Go.Proofs.Tryz.prog Go.Proofs.Tryz.f100.results.toList = Qv [(RV.t 2)] := by kernel_rfl
theorem f100_nt : Go.Proofs.Tryz.f100.ntmps = 6 := by kernel_rfl
theorem f100_ok : callable Go.Proofs.Tryz.prog 100 = true := by kernel_rfl
theorem f100_in {gp : Heap} {args : List V} {res : V} (h : G ⟨Go.Proofs.Tryz.prog, gp, 0, [(RV.t 2)], fun r c => r = res ∧ c = [], false⟩ [.code f100_c4, .fin] ⟨args ++ List.replicate (6 - args.length) .un, []⟩) : Does Go.Proofs.Tryz.prog gp 100 args res :=
  does_intro f100_ok Go.Proofs.Tryz.func100 f100_body f100_tr f100_rs (by rw [f100_nt]; exact h)
theorem f100_tri {gp : Heap} {args : List V} {pre : List Ch} {R : V → List Ch → Prop} (h : G ⟨Go.Proofs.Tryz.prog, gp, pre.length, [(RV.t 2)], R, false⟩ [.code f100_c4, .fin] ⟨args ++ List.replicate (6 - args.length) .un, pre⟩) : Tri Go.Proofs.Tryz.prog gp 100 args pre R :=
  tri_intro Go.Proofs.Tryz.func100 f100_body f100_tr f100_rs (by rw [f100_nt]; exact h)
def f101_r0 : List MO := [
(Qa (Qv 2) (Qd (Qo (Qp (Qq (Qs false))))))]
def f101_c0 : MC := .reg false f101_r0
def f101_r1 : List MO := [
(Qa (Qv 3) (Qd (Qn 0))),
(Qa (Qv 4) (Qd (Qn 0))),
(Qa (Qv 5) (Qe Leaf.s Go.BinOp.neq (Qn 3) (Qn 4))),
(Qa (Qv 2) (Qd (Qn 5)))]
def f101_c1 : MC := .reg false f101_r1
def f101_c2 : MC := MC.ret
def f101_c3 : MC := .seq f101_c1 f101_c2
def f101_c4 : MC := .seq f101_c0 f101_c3
noncomputable def f101_code : Code := (Go.Proofs.Tryz.f101.body).getD .skip
theorem f101_body : Go.Proofs.Tryz.f101.body = Qv f101_code := by kernel_rfl
theorem f101_tr : trC Go.Proofs.Tryz.prog [] f101_code = Qv f101_c4 := by kernel_rfl
theorem f101_rs : rsOf Go.Proofs.Tryz.prog Go.Proofs.Tryz.f101.results.toList = Qv [(RV.t 2)] := by kernel_rfl
theorem f101_nt : Go.Proofs.Tryz.f101.ntmps = 6 := by kernel_rfl
theorem f101_ok : callable Go.Proofs.Tryz.prog 101 = true := by kernel_rfl
theorem f101_in {gp : Heap} {args : List V} {res : V} (h : G ⟨Go.Proofs.Tryz.prog, gp, 0, [(RV.t 2)], fun r c => r = res ∧ c = [], false⟩ [.code f101_c4, .fin] ⟨args ++ List.replicate (6 - args.length) .un, []⟩) : Does Go.Proofs.Tryz.prog gp 101 args res :=
  does_intro f101_ok Go.Proofs.Tryz.func101 f101_body f101_tr f101_rs (by rw [f101_nt]; exact h)
theorem f101_tri {gp : Heap} {args : List V} {pre : List Ch} {R : V → List Ch → Prop} (h : G ⟨Go.Proofs.Tryz.prog, gp, pre.length, [(RV.t 2)], R, false⟩ [.code f101_c4, .fin] ⟨args ++ List.replicate (6 - args.length) .un, pre⟩) : Tri Go.Proofs.Tryz.prog gp 101 args pre R :=
  tri_intro Go.Proofs.Tryz.func101 f101_body f101_tr f101_rs (by rw [f101_nt]; exact h)
def f102_r0 : List MO := [
(Qa (Qv 4) (Qd (Qo (Qp (Qq (Qs false))))))]
def f102_c0 : MC := .reg false f102_r0
def f102_r1 : List MO := [
(Qa (Qv 5) (Qd (Qn 0))),
(Qa (Qv 6) (Qd (Qn 1))),
(Qa (Qv 7) (Qh 110 [(Qn 5), (Qn 6)])),
(Qa (Qv 8) (Qe Qt Go.BinOp.geq (Qn 7) (Qo (Qp (Qq (Qr Qu 0)))))),
(Qa (Qv 4) (Qd (Qn 8)))]
def f102_c1 : MC := .reg false f102_r1
def f102_c2 : MC := MC.ret
def f102_c3 : MC := .seq f102_c1 f102_c2
def f102_c4 : MC := .seq f102_c0 f102_c3
noncomputable def f102_code : Code := (Go.Proofs.Tryz.f102.body).getD .skip
theorem f102_body : Go.Proofs.Tryz.f102.body = Qv f102_code := by kernel_rfl
theorem f102_tr : trC Go.Proofs.Tryz.prog [] f102_code = Qv f102_c4 := by kernel_rfl
theorem f102_rs : rsOf Go.Proofs.Tryz.prog Go.Proofs.Tryz.f102.results.toList = Qv [(RV.t 4)] := by kernel_rfl
theorem f102_nt : Go.Proofs.Tryz.f102.ntmps = 9 := by kernel_rfl
theorem f102_ok : callable Go.Proofs.Tryz.prog 102 = true := by kernel_rfl
theorem f102_in {gp : Heap} {args : List V} {res : V} (h : G ⟨Go.Proofs.Tryz.prog, gp, 0, [(RV.t 4)], fun r c => r = res ∧ c = [], false⟩ [.code f102_c4, .fin] ⟨args ++ List.replicate (9 - args.length) .un, []⟩) : Does Go.Proofs.Tryz.prog gp 102 args res :=
  does_intro f102_ok Go.Proofs.Tryz.func102 f102_body f102_tr f102_rs (by rw [f102_nt]; exact h)
theorem f102_tri {gp : Heap} {args : List V} {pre : List Ch} {R : V → List Ch → Prop} (h : G ⟨Go.Proofs.Tryz.prog, gp, pre.length, [(RV.t 4)], R, false⟩ [.code f102_c4, .fin] ⟨args ++ List.replicate (9 - args.length) .un, pre⟩) : Tri Go.Proofs.Tryz.prog gp 102 args pre R :=
  tri_intro Go.Proofs.Tryz.func102 f102_body f102_tr f102_rs (by rw [f102_nt]; exact h)
def f103_r0 : List MO := [
(Qa (Qv 2) (Qd (Qo (Qp (Qq (Qs false))))))]
def f103_c0 : MC := .reg false f103_r0
def f103_r1 : List MO := [
(Qa (Qv 7) (Qd (Qn 0))),
(Qa (Qv 8) (MOp.rng (Qn 7)))]
def f103_c1 : MC := .reg false f103_r1
def f103_r2 : List MO := [
(Qa (Qv 9) (MOp.nxt (Qn 8))),
(Qa (Qv 10) (Qi (Qn 9) 0))]
def f103_c2 : MC := .reg false f103_r2
def f103_c3 : MC := MC.skip
def f103_c4 : MC := (MC.exit 0)
def f103_c5 : MC := .cond (Qn 10) f103_c3 f103_c4
def f103_r6 : List MO := [
(Qa (Qv 11) (Qi (Qn 9) 1)),
(Qa (Qv 12) (Qi (Qn 9) 2)),
(Qa (Qv 3) (Qd (Qn 11))),
(Qa (Qv 4) (Qd (Qn 12)))]
def f103_c6 : MC := .reg false f103_r6
def f103_r7 : List MO := [
(Qa (Qv 14) (Qd (Qn 0))),
(Qa (Qv 15) (Qd (Qn 3))),
(Qa (Qv 16) (MOp.slcS (Qn 14) (Qv (Qn 15)) none)),
(Qa (Qv 17) (Qh 111 [(Qn 16)])),
(Qa (Qv 13) (Qd (Qn 17))),
(Qa (Qv 18) (Qi (Qn 13) 0)),
(Qa (Qv 19) (Qi (Qn 13) 1)),
(Qa (Qv 5) (Qd (Qn 18))),
(Qa (Qv 6) (Qd (Qn 19)))]
def f103_c7 : MC := .reg false f103_r7
def f103_r8 : List MO := [
(Qa (Qv 20) (Qd (Qn 4))),
(Qa (Qv 21) (Qe Qt Go.BinOp.eql (Qn 20) (Qo (Qp (Qq (Qr Go.IntKind.i32 65533)))))),
(Qa (Qv 22) (Qd (Qn 21))),
(Qb 22 true (Qv 23)),
(Qa (Qv 23) (Qd (Qn 6))),
(Qb 22 true (Qv 24)),
(Qa (Qv 24) (Qe Qt Go.BinOp.eql (Qn 23) (Qo (Qp (Qq (Qr Qu 1)))))),
(Qa (Qv 25) (Qm (Qn 22) (Qn 24) (Qo (Qp (Qq (Qs false))))))]
def f103_c8 : MC := .reg false f103_r8
def f103_r9 : List MO := [
(Qa (Qv 2) (Qd (Qo (Qp (Qq (Qs false))))))]
def f103_c9 : MC := .reg false f103_r9
def f103_c10 : MC := MC.ret
def f103_c11 : MC := .seq f103_c9 f103_c10
def f103_c12 : MC := MC.skip
def f103_c13 : MC := .cond (Qn 25) f103_c11 f103_c12
def f103_c14 : MC := .seq f103_c8 f103_c13
def f103_c15 : MC := .seq f103_c7 f103_c14
def f103_c16 : MC := .seq f103_c6 f103_c15
def f103_c17 : MC := .blk 1 f103_c16
def f103_c18 : MC := .seq f103_c5 f103_c17
def f103_c19 : MC := .seq f103_c2 f103_c18
def f103_c20 : MC := .loop f103_c19
def f103_c21 : MC := .blk 0 f103_c20
def f103_c22 : MC := .seq f103_c1 f103_c21
def f103_r23 : List MO := [
(Qa (Qv 2) (Qd (Qo (Qp (Qq (Qs true))))))]
def f103_c23 : MC := .reg false f103_r23
def f103_c24 : MC := MC.ret
def f103_c25 : MC := .seq f103_c23 f103_c24
def f103_c26 : MC := .seq f103_c22 f103_c25
def f103_c27 : MC := .seq f103_c0 f103_c26
noncomputable def f103_code : Code := (Go.Proofs.Tryz.f103.body).getD .skip
theorem f103_body : Go.Proofs.Tryz.f103.body = Qv f103_code := by kernel_rfl
theorem f103_tr : trC Go.Proofs.Tryz.prog [] f103_code = Qv f103_c27 := by kernel_rfl
theorem f103_rs : rsOf Go.Proofs.Tryz.prog Go.Proofs.Tryz.f103.results.toList = Qv [(RV.t 2)] := by kernel_rfl
theorem f103_nt : Go.Proofs.Tryz.f103.ntmps = 26 := by kernel_rfl
theorem f103_ok : callable Go.Proofs.Tryz.prog 103 = true := by kernel_rfl
theorem f103_in {gp : Heap} {args : List V} {res : V} (h : G ⟨Go.Proofs.Tryz.prog, gp, 0, [(RV.t 2)], fun r c => r = res ∧ c = [], false⟩ [.code f103_c27, .fin] ⟨args ++ List.replicate (26 - args.length) .un, []⟩) : Does Go.Proofs.Tryz.prog gp 103 args res :=
  does_intro f103_ok Go.Proofs.Tryz.func103 f103_body f103_tr f103_rs (by rw [f103_nt]; exact h)
theorem f103_tri {gp : Heap} {args : List V} {pre : List Ch} {R : V → List Ch → Prop} (h : G ⟨Go.Proofs.Tryz.prog, gp, pre.length, [(RV.t 2)], R, false⟩ [.code f103_c27, .fin] ⟨args ++ List.replicate (26 - args.length) .un, pre⟩) : Tri Go.Proofs.Tryz.prog gp 103 args pre R :=
  tri_intro Go.Proofs.Tryz.func103 f103_body f103_tr f103_rs (by rw [f103_nt]; exact h)
def f104_r0 : List MO := [
(Qa (Qv 3) (Qd (Qo (Qp (Qq (Qs false))))))]
def f104_c0 : MC := .reg false f104_r0
def f104_r1 : List MO := [
(Qa (Qv 4) (Qd (Qn 0))),
(Qa (Qv 5) (Qe Qt Go.BinOp.lss (Qn 4) (Qo (Qp (Qq (Qr Qu 0)))))),
(Qa (Qv 6) (Qd (Qn 5))),
(Qb 6 false (Qv 7)),
(Qa (Qv 7) (Qd (Qn 0))),
(Qb 6 false (Qv 8)),
(Qa (Qv 8) (Qg 6 (Qn 1))),
(Qb 6 false (Qv 9)),
(Qa (Qv 9) (Qf 1 false (Qn 8))),
(Qb 6 false (Qv 10)),
(Qa (Qv 10) (Qe Qt Go.BinOp.geq (Qn 7) (Qn 9))),
(Qa (Qv 11) (Qm (Qn 6) (Qo (Qp (Qq (Qs true)))) (Qn 10))),
(Qa (Qv 3) (Qd (Qn 11)))]
def f104_c1 : MC := .reg false f104_r1
def f104_c2 : MC := MC.ret
def f104_c3 : MC := .seq f104_c1 f104_c2
def f104_c4 : MC := .seq f104_c0 f104_c3
noncomputable def f104_code : Code := (Go.Proofs.Tryz.f104.body).getD .skip
theorem f104_body : Go.Proofs.Tryz.f104.body = Qv f104_code := by kernel_rfl
theorem f104_tr : trC Go.Proofs.Tryz.prog [] f104_code = Qv f104_c4 := by kernel_rfl
theorem f104_rs : rsOf Go.Proofs.Tryz.prog Go.Proofs.Tryz.f104.results.toList = Qv [(RV.t 3)] := by kernel_rfl
theorem f104_nt : Go.Proofs.Tryz.f104.ntmps = 12 := by kernel_rfl
theorem f104_ok : callable Go.Proofs.Tryz.prog 104 = true := by kernel_rfl
theorem f104_in {gp : Heap} {args : List V} {res : V} (h : G ⟨Go.Proofs.Tryz.prog, gp, 0, [(RV.t 3)], fun r c => r = res ∧ c = [], false⟩ [.code f104_c4, .fin] ⟨args ++ List.replicate (12 - args.length) .un, []⟩) : Does Go.Proofs.Tryz.prog gp 104 args res :=
  does_intro f104_ok Go.Proofs.Tryz.func104 f104_body f104_tr f104_rs (by rw [f104_nt]; exact h)
theorem f104_tri {gp : Heap} {args : List V} {pre : List Ch} {R : V → List Ch → Prop} (h : G ⟨Go.Proofs.Tryz.prog, gp, pre.length, [(RV.t 3)], R, false⟩ [.code f104_c4, .fin] ⟨args ++ List.replicate (12 - args.length) .un, pre⟩) : Tri Go.Proofs.Tryz.prog gp 104 args pre R :=
  tri_intro Go.Proofs.Tryz.func104 f104_body f104_tr f104_rs (by rw [f104_nt]; exact h)
def f105_r0 : List MO := [
(Qa (Qv 4) (Qd (Qo (Qp (Qq (Qs false))))))]
def f105_c0 : MC := .reg false f105_r0
def f105_r1 : List MO := [
(Qa (Qv 5) (Qd (Qn 0))),
(Qa (Qv 6) (Qd (Qn 1))),
(Qa (Qv 7) (Qh 112 [(Qn 5), (Qn 6)])),
(Qa (Qv 8) (Qe Qt Go.BinOp.geq (Qn 7) (Qo (Qp (Qq (Qr Qu 0)))))),
(Qa (Qv 4) (Qd (Qn 8)))]
def f105_c1 : MC := .reg false f105_r1
def f105_c2 : MC := MC.ret
def f105_c3 : MC := .seq f105_c1 f105_c2
def f105_c4 : MC := .seq f105_c0 f105_c3
noncomputable def f105_code : Code := (Go.Proofs.Tryz.f105.body).getD .skip
theorem f105_body : Go.Proofs.Tryz.f105.body = Qv f105_code := by kernel_rfl
theorem f105_tr : trC Go.Proofs.Tryz.prog [] f105_code = Qv f105_c4 := by kernel_rfl
theorem f105_rs : rsOf Go.Proofs.Tryz.prog Go.Proofs.Tryz.f105.results.toList = Qv [(RV.t 4)] := by kernel_rfl
theorem f105_nt : Go.Proofs.Tryz.f105.ntmps = 9 := by kernel_rfl
theorem f105_ok : callable Go.Proofs.Tryz.prog 105 = true := by kernel_rfl
theorem f105_in {gp : Heap} {args : List V} {res : V} (h : G ⟨Go.Proofs.Tryz.prog, gp, 0, [(RV.t 4)], fun r c => r = res ∧ c = [], false⟩ [.code f105_c4, .fin] ⟨args ++ List.replicate (9 - args.length) .un, []⟩) : Does Go.Proofs.Tryz.prog gp 105 args res :=
  does_intro f105_ok Go.Proofs.Tryz.func105 f105_body f105_tr f105_rs (by rw [f105_nt]; exact h)
theorem f105_tri {gp : Heap} {args : List V} {pre : List Ch} {R : V → List Ch → Prop} (h : G ⟨Go.Proofs.Tryz.prog, gp, pre.length, [(RV.t 4)], R, false⟩ [.code f105_c4, .fin] ⟨args ++ List.replicate (9 - args.length) .un, pre⟩) : Tri Go.Proofs.Tryz.prog gp 105 args pre R :=
  tri_intro Go.Proofs.Tryz.func105 f105_body f105_tr f105_rs (by rw [f105_nt]; exact h)
def f106_r0 : List MO := [
(Qa (Qv 1) (MOp.ibox (Qn 0))),
(Qa (Qv 2) (Qd (Qo (Qp (Qq (Qs false))))))]
def f106_c0 : MC := .reg false f106_r0
def f106_r1 : List MO := [
(Qa (Qv 3) (Qf 3 true (Qn 1))),
(Qa (Qv 4) (Qh 95 [(Qn 3)])),
(Qa (Qv 5) (MOp.not (Qn 4))),
(Qa (Qv 2) (Qd (Qn 5)))]
def f106_c1 : MC := .reg false f106_r1
def f106_c2 : MC := MC.ret
def f106_c3 : MC := .seq f106_c1 f106_c2
def f106_c4 : MC := .seq f106_c0 f106_c3
noncomputable def f106_code : Code := (Go.Proofs.Tryz.f106.body).getD .skip
theorem f106_body : Go.Proofs.Tryz.f106.body = Qv f106_code := by kernel_rfl
theorem f106_tr : trC Go.Proofs.Tryz.prog [1] f106_code = Qv f106_c4 := by kernel_rfl
theorem f106_rs : rsOf Go.Proofs.Tryz.prog Go.Proofs.Tryz.f106.results.toList = Qv [(RV.t 2)] := by kernel_rfl
theorem f106_nt : Go.Proofs.Tryz.f106.ntmps = 6 := by kernel_rfl
theorem f106_ok : callable Go.Proofs.Tryz.prog 106 = true := by kernel_rfl
theorem f106_in {gp : Heap} {args : List V} {res : V} (h : G ⟨Go.Proofs.Tryz.prog, gp, 0, [(RV.t 2)], fun r c => r = res ∧ c = [], false⟩ [.code f106_c4, .fin] ⟨args ++ List.replicate (6 - args.length) .un, []⟩) : Does Go.Proofs.Tryz.prog gp 106 args res :=
  does_intro f106_ok Go.Proofs.Tryz.func106 f106_body f106_tr f106_rs (by rw [f106_nt]; exact h)
theorem f106_tri {gp : Heap} {args : List V} {pre : List Ch} {R : V → List Ch → Prop} (h : G ⟨Go.Proofs.Tryz.prog, gp, pre.length, [(RV.t 2)], R, false⟩ [.code f106_c4, .fin] ⟨args ++ List.replicate (6 - args.length) .un, pre⟩) : Tri Go.Proofs.Tryz.prog gp 106 args pre R :=
  tri_intro Go.Proofs.Tryz.func106 f106_body f106_tr f106_rs (by rw [f106_nt]; exact h)
def f107_r0 : List MO := [
(Qa (Qv 4) (Qd (Qo (Qp (Qq (Qs false))))))]
def f107_c0 : MC := .reg false f107_r0
def f107_r1 : List MO := [
(Qa (Qv 5) (Qd (Qn 0))),
(Qa (Qv 6) (Qd (Qn 1))),
(Qa (Qv 7) (Qh 113 [(Qn 5), (Qn 6)])),
(Qa (Qv 8) (Qe Qt Go.BinOp.geq (Qn 7) (Qo (Qp (Qq (Qr Qu 0)))))),
(Qa (Qv 4) (Qd (Qn 8)))]
def f107_c1 : MC := .reg false f107_r1
def f107_c2 : MC := MC.ret
def f107_c3 : MC := .seq f107_c1 f107_c2
def f107_c4 : MC := .seq f107_c0 f107_c3
noncomputable def f107_code : Code := (Go.Proofs.Tryz.f107.body).getD .skip
theorem f107_body : Go.Proofs.Tryz.f107.body = Qv f107_code := by kernel_rfl
theorem f107_tr : trC Go.Proofs.Tryz.prog [] f107_code = Qv f107_c4 := by kernel_rfl
theorem f107_rs : rsOf Go.Proofs.Tryz.prog Go.Proofs.Tryz.f107.results.toList = Qv [(RV.t 4)] := by kernel_rfl
theorem f107_nt : Go.Proofs.Tryz.f107.ntmps = 9 := by kernel_rfl
theorem f107_ok : callable Go.Proofs.Tryz.prog 107 = true := by kernel_rfl
theorem f107_in {gp : Heap} {args : List V} {res : V} (h : G ⟨Go.Proofs.Tryz.prog, gp, 0, [(RV.t 4)], fun r c => r = res ∧ c = [], false⟩ [.code f107_c4, .fin] ⟨args ++ List.replicate (9 - args.length) .un, []⟩) : Does Go.Proofs.Tryz.prog gp 107 args res :=
  does_intro f107_ok Go.Proofs.Tryz.func107 f107_body f107_tr f107_rs (by rw [f107_nt]; exact h)
theorem f107_tri {gp : Heap} {args : List V} {pre : List Ch} {R : V → List Ch → Prop} (h : G ⟨Go.Proofs.Tryz.prog, gp, pre.length, [(RV.t 4)], R, false⟩ [.code f107_c4, .fin] ⟨args ++ List.replicate (9 - args.length) .un, pre⟩) : Tri Go.Proofs.Tryz.prog gp 107 args pre R :=
  tri_intro Go.Proofs.Tryz.func107 f107_body f107_tr f107_rs (by rw [f107_nt]; exact h)
def f108_r0 : List MO := [
(Qa (Qv 2) (Qd (Qo (Qp (Qq (Qs false))))))]
def f108_c0 : MC := .reg false f108_r0
def f108_r1 : List MO := [
(Qa (Qv 3) (MOp.alloc [(Qr Qu 0)])),
(Qa none (Ql 1 (Qn 3) (Qo (Qp (Qq (Qr Qu 0))))))]
def f108_c1 : MC := .reg false f108_r1
def f108_r2 : List MO := [
(Qa (Qv 4) (Qd (Qn 0))),
(Qa (Qv 5) (Qh 114 [(Qn 4)]))]
def f108_c2 : MC := .reg false f108_r2
def f108_c3 : MC := MC.skip
def f108_r4 : List MO := [
(Qa (Qv 7) (Qf 1 false (Qn 3))),
(Qa (Qv 8) (Qe Qt Go.BinOp.add (Qn 7) (Qo (Qp (Qq (Qr Qu 1)))))),
(Qa none (Ql 1 (Qn 3) (Qn 8)))]
def f108_c4 : MC := .reg false f108_r4
def f108_c5 : MC := .blk 1 f108_c4
def f108_c6 : MC := .rf (Qn 5) [6] f108_c3 f108_c5
def f108_c7 : MC := .blk 0 f108_c6
def f108_c8 : MC := .seq f108_c2 f108_c7
def f108_r9 : List MO := [
(Qa (Qv 9) (Qf 1 false (Qn 3))),
(Qa (Qv 10) (Qd (Qn 0))),
(Qa (Qv 11) (Qk Qt (Qn 10))),
(Qa (Qv 12) (Qe Qt Go.BinOp.lss (Qn 9) (Qn 11))),
(Qa (Qv 2) (Qd (Qn 12)))]
def f108_c9 : MC := .reg false f108_r9
def f108_c10 : MC := MC.ret
def f108_c11 : MC := .seq f108_c9 f108_c10
def f108_c12 : MC := .seq f108_c8 f108_c11
def f108_c13 : MC := .seq f108_c1 f108_c12
def f108_c14 : MC := .seq f108_c0 f108_c13
noncomputable def f108_code : Code := (Go.Proofs.Tryz.f108.body).getD .skip
theorem f108_body : Go.Proofs.Tryz.f108.body = Qv f108_code := by kernel_rfl
theorem f108_tr : trC Go.Proofs.Tryz.prog [] f108_code = Qv f108_c14 := by kernel_rfl
theorem f108_rs : rsOf Go.Proofs.Tryz.prog Go.Proofs.Tryz.f108.results.toList = Qv [(RV.t 2)] := by kernel_rfl
theorem f108_nt : Go.Proofs.Tryz.f108.ntmps = 13 := by kernel_rfl
theorem f108_ok : callable Go.Proofs.Tryz.prog 108 = true := by kernel_rfl
theorem f108_in {gp : Heap} {args : List V} {res : V} (h : G ⟨Go.Proofs.Tryz.prog, gp, 0, [(RV.t 2)], fun r c => r = res ∧ c = [], false⟩ [.code f108_c14, .fin] ⟨args ++ List.replicate (13 - args.length) .un, []⟩) : Does Go.Proofs.Tryz.prog gp 108 args res :=
  does_intro f108_ok Go.Proofs.Tryz.func108 f108_body f108_tr f108_rs (by rw [f108_nt]; exact h)
theorem f108_tri {gp : Heap} {args : List V} {pre : List Ch} {R : V → List Ch → Prop} (h : G ⟨Go.Proofs.Tryz.prog, gp, pre.length, [(RV.t 2)], R, false⟩ [.code f108_c14, .fin] ⟨args ++ List.replicate (13 - args.length) .un, pre⟩) : Tri Go.Proofs.Tryz.prog gp 108 args pre R :=
  tri_intro Go.Proofs.Tryz.func108 f108_body f108_tr f108_rs (by rw [f108_nt]; exact h)
def f110_r0 : List MO := [
(Qa (Qv 4) (Qd (Qo (Qp (Qq (Qr Qu 0))))))]
def f110_c0 : MC := .reg false f110_r0
def f110_r1 : List MO := [
(Qa (Qv 6) (Qd (Qn 0))),
(Qa (Qv 7) (Qk Qt (Qn 6))),
(Qa (Qv 8) (Qd (Qo (Qp (Qq (Qr Qu 0))))))]
def f110_c1 : MC := .reg false f110_r1
def f110_r2 : List MO := [
(Qa (Qv 9) (Qe Qt Go.BinOp.lss (Qn 8) (Qn 7)))]
def f110_c2 : MC := .reg false f110_r2
def f110_c3 : MC := MC.skip
def f110_c4 : MC := (MC.exit 0)
def f110_c5 : MC := .cond (Qn 9) f110_c3 f110_c4
def f110_r6 : List MO := [
(Qa (Qv 10) (Qd (Qn 8))),
(Qa (Qv 5) (Qd (Qn 10)))]
def f110_c6 : MC := .reg false f110_r6
def f110_r7 : List MO := [
(Qa (Qv 11) (Qd (Qn 1))),
(Qa (Qv 12) (Qd (Qn 0))),
(Qa (Qv 13) (Qd (Qn 5))),
(Qa (Qv 14) (Qj 1 (Qn 12) (Qn 13))),
(Qa (Qv 15) (Qf 1 false (Qn 14))),
(Qa (Qv 16) (Qe Leaf.b Go.BinOp.eql (Qn 11) (Qn 15)))]
def f110_c7 : MC := .reg false f110_r7
def f110_r8 : List MO := [
(Qa (Qv 17) (Qd (Qn 5))),
(Qa (Qv 4) (Qd (Qn 17)))]
def f110_c8 : MC := .reg false f110_r8
def f110_c9 : MC := MC.ret
def f110_c10 : MC := .seq f110_c8 f110_c9
def f110_c11 : MC := MC.skip
def f110_c12 : MC := .cond (Qn 16) f110_c10 f110_c11
def f110_c13 : MC := .seq f110_c7 f110_c12
def f110_c14 : MC := .seq f110_c6 f110_c13
def f110_c15 : MC := .blk 1 f110_c14
def f110_r16 : List MO := [
(Qa (Qv 18) (Qe Qt Go.BinOp.add (Qn 8) (Qo (Qp (Qq (Qr Qu 1)))))),
(Qa (Qv 8) (Qd (Qn 18)))]
def f110_c16 : MC := .reg false f110_r16
def f110_c17 : MC := .seq f110_c15 f110_c16
def f110_c18 : MC := .seq f110_c5 f110_c17
def f110_c19 : MC := .seq f110_c2 f110_c18
def f110_c20 : MC := .loop f110_c19
def f110_c21 : MC := .blk 0 f110_c20
def f110_c22 : MC := .seq f110_c1 f110_c21
def f110_r23 : List MO := [
(Qa (Qv 4) (Qd (Qo (Qp (Qq (Qr Qu (-1)))))))]
def f110_c23 : MC := .reg false f110_r23
def f110_c24 : MC := MC.ret
def f110_c25 : MC := .seq f110_c23 f110_c24
def f110_c26 : MC := .seq f110_c22 f110_c25
def f110_c27 : MC := .seq f110_c0 f110_c26
noncomputable def f110_code : Code := (Go.Proofs.Tryz.f110.body).getD .skip
theorem f110_body : Go.Proofs.Tryz.f110.body = Qv f110_code := by kernel_rfl
theorem f110_tr : trC Go.Proofs.Tryz.prog [] f110_code = Qv f110_c27 := by kernel_rfl
theorem f110_rs : rsOf Go.Proofs.Tryz.prog Go.Proofs.Tryz.f110.results.toList = Qv [(RV.t 4)] := by kernel_rfl
theorem f110_nt : Go.Proofs.Tryz.f110.ntmps = 19 := by kernel_rfl
theorem f110_ok : callable Go.Proofs.Tryz.prog 110 = true := by kernel_rfl
theorem f110_in {gp : Heap} {args : List V} {res : V} (h : G ⟨Go.Proofs.Tryz.prog, gp, 0, [(RV.t 4)], fun r c => r = res ∧ c = [], false⟩ [.code f110_c27, .fin] ⟨args ++ List.replicate (19 - args.length) .un, []⟩) : Does Go.Proofs.Tryz.prog gp 110 args res :=
  does_intro f110_ok Go.Proofs.Tryz.func110 f110_body f110_tr f110_rs (by rw [f110_nt]; exact h)
theorem f110_tri {gp : Heap} {args : List V} {pre : List Ch} {R : V → List Ch → Prop} (h : G ⟨Go.Proofs.Tryz.prog, gp, pre.length, [(RV.t 4)], R, false⟩ [.code f110_c27, .fin] ⟨args ++ List.replicate (19 - args.length) .un, pre⟩) : Tri Go.Proofs.Tryz.prog gp 110 args pre R :=
  tri_intro Go.Proofs.Tryz.func110 f110_body f110_tr f110_rs (by rw [f110_nt]; exact h)
def f112_r0 : List MO := [
(Qa (Qv 4) (Qd (Qo (Qp (Qq (Qr Qu 0))))))]
def f112_c0 : MC := .reg false f112_r0
def f112_r1 : List MO := [
(Qa (Qv 6) (Qd (Qn 0))),
(Qa (Qv 7) (Qk Qt (Qn 6))),
(Qa (Qv 8) (Qd (Qo (Qp (Qq (Qr Qu 0))))))]
def f112_c1 : MC := .reg false f112_r1
def f112_r2 : List MO := [
(Qa (Qv 9) (Qe Qt Go.BinOp.lss (Qn 8) (Qn 7)))]
def f112_c2 : MC := .reg false f112_r2
def f112_c3 : MC := MC.skip
def f112_c4 : MC := (MC.exit 0)
def f112_c5 : MC := .cond (Qn 9) f112_c3 f112_c4
def f112_r6 : List MO := [
(Qa (Qv 10) (Qd (Qn 8))),
(Qa (Qv 5) (Qd (Qn 10)))]
def f112_c6 : MC := .reg false f112_r6
def f112_r7 : List MO := [
(Qa (Qv 11) (Qd (Qn 1))),
(Qa (Qv 12) (Qd (Qn 0))),
(Qa (Qv 13) (Qd (Qn 5))),
(Qa (Qv 14) (Qj 1 (Qn 12) (Qn 13))),
(Qa (Qv 15) (Qf 1 false (Qn 14))),
(Qa (Qv 16) (MOp.callv (Qn 11) [(Qn 15)]))]
def f112_c7 : MC := .reg false f112_r7
def f112_r8 : List MO := [
(Qa (Qv 17) (Qd (Qn 5))),
(Qa (Qv 4) (Qd (Qn 17)))]
def f112_c8 : MC := .reg false f112_r8
def f112_c9 : MC := MC.ret
def f112_c10 : MC := .seq f112_c8 f112_c9
def f112_c11 : MC := MC.skip
def f112_c12 : MC := .cond (Qn 16) f112_c10 f112_c11
def f112_c13 : MC := .seq f112_c7 f112_c12
def f112_c14 : MC := .seq f112_c6 f112_c13
def f112_c15 : MC := .blk 1 f112_c14
def f112_r16 : List MO := [
(Qa (Qv 18) (Qe Qt Go.BinOp.add (Qn 8) (Qo (Qp (Qq (Qr Qu 1)))))),
(Qa (Qv 8) (Qd (Qn 18)))]
def f112_c16 : MC := .reg false f112_r16
def f112_c17 : MC := .seq f112_c15 f112_c16
def f112_c18 : MC := .seq f112_c5 f112_c17
def f112_c19 : MC := .seq f112_c2 f112_c18
def f112_c20 : MC := .loop f112_c19
def f112_c21 : MC := .blk 0 f112_c20
def f112_c22 : MC := .seq f112_c1 f112_c21
def f112_r23 : List MO := [
(Qa (Qv 4) (Qd (Qo (Qp (Qq (Qr Qu (-1)))))))]
def f112_c23 : MC := .reg false f112_r23
def f112_c24 : MC := MC.ret
def f112_c25 : MC := .seq f112_c23 f112_c24
def f112_c26 : MC := .seq f112_c22 f112_c25
def f112_c27 : MC := .seq f112_c0 f112_c26
noncomputable def f112_code : Code := (Go.Proofs.Tryz.f112.body).getD .skip
theorem f112_body : Go.Proofs.Tryz.f112.body = Qv f112_code := by kernel_rfl
theorem f112_tr : trC Go.Proofs.Tryz.prog [] f112_code = Qv f112_c27 := by kernel_rfl
theorem f112_rs : rsOf Go.Proofs.Tryz.prog Go.Proofs.Tryz.f112.results.toList = Qv [(RV.t 4)] := by kernel_rfl
theorem f112_nt : Go.Proofs.Tryz.f112.ntmps = 19 := by kernel_rfl
theorem f112_ok : callable Go.Proofs.Tryz.prog 112 = true := by kernel_rfl
theorem f112_in {gp : Heap} {args : List V} {res : V} (h : G ⟨Go.Proofs.Tryz.prog, gp, 0, [(RV.t 4)], fun r c => r = res ∧ c = [], false⟩ [.code f112_c27, .fin] ⟨args ++ List.replicate (19 - args.length) .un, []⟩) : Does Go.Proofs.Tryz.prog gp 112 args res :=
  does_intro f112_ok Go.Proofs.Tryz.func112 f112_body f112_tr f112_rs (by rw [f112_nt]; exact h)
theorem f112_tri {gp : Heap} {args : List V} {pre : List Ch} {R : V → List Ch → Prop} (h : G ⟨Go.Proofs.Tryz.prog, gp, pre.length, [(RV.t 4)], R, false⟩ [.code f112_c27, .fin] ⟨args ++ List.replicate (19 - args.length) .un, pre⟩) : Tri Go.Proofs.Tryz.prog gp 112 args pre R :=
  tri_intro Go.Proofs.Tryz.func112 f112_body f112_tr f112_rs (by rw [f112_nt]; exact h)
def f113_r0 : List MO := [
(Qa (Qv 4) (Qd (Qo (Qp (Qq (Qr Qu 0))))))]
def f113_c0 : MC := .reg false f113_r0
def f113_r1 : List MO := [
(Qa (Qv 6) (Qd (Qn 0))),
(Qa (Qv 7) (Qk Qt (Qn 6))),
(Qa (Qv 8) (Qd (Qo (Qp (Qq (Qr Qu 0))))))]
def f113_c1 : MC := .reg false f113_r1
def f113_r2 : List MO := [
(Qa (Qv 9) (Qe Qt Go.BinOp.lss (Qn 8) (Qn 7)))]
def f113_c2 : MC := .reg false f113_r2
def f113_c3 : MC := MC.skip
def f113_c4 : MC := (MC.exit 0)
def f113_c5 : MC := .cond (Qn 9) f113_c3 f113_c4
def f113_r6 : List MO := [
(Qa (Qv 10) (Qd (Qn 8))),
(Qa (Qv 5) (Qd (Qn 10)))]
def f113_c6 : MC := .reg false f113_r6
def f113_r7 : List MO := [
(Qa (Qv 11) (Qd (Qn 1))),
(Qa (Qv 12) (Qd (Qn 0))),
(Qa (Qv 13) (Qd (Qn 5))),
(Qa (Qv 14) (Qj 3 (Qn 12) (Qn 13))),
(Qa (Qv 15) (Qf 3 true (Qn 14))),
(Qa (Qv 16) (MOp.callv (Qn 11) [(Qn 15)]))]
def f113_c7 : MC := .reg false f113_r7
def f113_r8 : List MO := [
(Qa (Qv 17) (Qd (Qn 5))),
(Qa (Qv 4) (Qd (Qn 17)))]
def f113_c8 : MC := .reg false f113_r8
def f113_c9 : MC := MC.ret
def f113_c10 : MC := .seq f113_c8 f113_c9
def f113_c11 : MC := MC.skip
def f113_c12 : MC := .cond (Qn 16) f113_c10 f113_c11
def f113_c13 : MC := .seq f113_c7 f113_c12
def f113_c14 : MC := .seq f113_c6 f113_c13
def f113_c15 : MC := .blk 1 f113_c14
def f113_r16 : List MO := [
(Qa (Qv 18) (Qe Qt Go.BinOp.add (Qn 8) (Qo (Qp (Qq (Qr Qu 1)))))),
(Qa (Qv 8) (Qd (Qn 18)))]
def f113_c16 : MC := .reg false f113_r16
def f113_c17 : MC := .seq f113_c15 f113_c16
def f113_c18 : MC := .seq f113_c5 f113_c17
def f113_c19 : MC := .seq f113_c2 f113_c18
def f113_c20 : MC := .loop f113_c19
def f113_c21 : MC := .blk 0 f113_c20
def f113_c22 : MC := .seq f113_c1 f113_c21
def f113_r23 : List MO := [
(Qa (Qv 4) (Qd (Qo (Qp (Qq (Qr Qu (-1)))))))]
def f113_c23 : MC := .reg false f113_r23
def f113_c24 : MC := MC.ret
def f113_c25 : MC := .seq f113_c23 f113_c24
def f113_c26 : MC := .seq f113_c22 f113_c25
def f113_c27 : MC := .seq f113_c0 f113_c26
noncomputable def f113_code : Code := (Go.Proofs.Tryz.f113.body).getD .skip
theorem f113_body : Go.Proofs.Tryz.f113.body = Qv f113_code := by kernel_rfl
theorem f113_tr : trC Go.Proofs.Tryz.prog [] f113_code = Qv f113_c27 := by kernel_rfl
theorem f113_rs : rsOf Go.Proofs.Tryz.prog Go.Proofs.Tryz.f113.results.toList = Qv [(RV.t 4)] := by kernel_rfl
theorem f113_nt : Go.Proofs.Tryz.f113.ntmps = 19 := by kernel_rfl
theorem f113_ok : callable Go.Proofs.Tryz.prog 113 = true := by kernel_rfl
theorem f113_in {gp : Heap} {args : List V} {res : V} (h : G ⟨Go.Proofs.Tryz.prog, gp, 0, [(RV.t 4)], fun r c => r = res ∧ c = [], false⟩ [.code f113_c27, .fin] ⟨args ++ List.replicate (19 - args.length) .un, []⟩) : Does Go.Proofs.Tryz.prog gp 113 args res :=
  does_intro f113_ok Go.Proofs.Tryz.func113 f113_body f113_tr f113_rs (by rw [f113_nt]; exact h)
theorem f113_tri {gp : Heap} {args : List V} {pre : List Ch} {R : V → List Ch → Prop} (h : G ⟨Go.Proofs.Tryz.prog, gp, pre.length, [(RV.t 4)], R, false⟩ [.code f113_c27, .fin] ⟨args ++ List.replicate (19 - args.length) .un, pre⟩) : Tri Go.Proofs.Tryz.prog gp 113 args pre R :=
  tri_intro Go.Proofs.Tryz.func113 f113_body f113_tr f113_rs (by rw [f113_nt]; exact h)
def f114_r0 : List MO := [
(Qa (Qv 1) (MOp.ibox (Qn 0))),
(Qa (Qv 2) (Qd (Qo (Qp (Qq D.nilF)))))]
def f114_c0 : MC := .reg false f114_r0
def f114_r1 : List MO := [
(Qa (Qv 3) (MOp.mkF (Go.Fn.func 117) [(Qn 1)])),
(Qa (Qv 2) (Qd (Qn 3)))]
def f114_c1 : MC := .reg false f114_r1
def f114_c2 : MC := MC.ret
def f114_c3 : MC := .seq f114_c1 f114_c2
def f114_c4 : MC := .seq f114_c0 f114_c3
noncomputable def f114_code : Code := (Go.Proofs.Tryz.f114.body).getD .skip
theorem f114_body : Go.Proofs.Tryz.f114.body = Qv f114_code := by kernel_rfl
theorem f114_tr : trC Go.Proofs.Tryz.prog [1] f114_code = Qv f114_c4 := by kernel_rfl
theorem f114_rs : rsOf Go.Proofs.Tryz.prog Go.Proofs.Tryz.f114.results.toList = Qv [(RV.t 2)] := by kernel_rfl
theorem f114_nt : Go.Proofs.Tryz.f114.ntmps = 4 := by kernel_rfl
theorem f114_ok : callable Go.Proofs.Tryz.prog 114 = true := by kernel_rfl
theorem f114_in {gp : Heap} {args : List V} {res : V} (h : G ⟨Go.Proofs.Tryz.prog, gp, 0, [(RV.t 2)], fun r c => r = res ∧ c = [], false⟩ [.code f114_c4, .fin] ⟨args ++ List.replicate (4 - args.length) .un, []⟩) : Does Go.Proofs.Tryz.prog gp 114 args res :=
  does_intro f114_ok Go.Proofs.Tryz.func114 f114_body f114_tr f114_rs (by rw [f114_nt]; exact h)
theorem f114_tri {gp : Heap} {args : List V} {pre : List Ch} {R : V → List Ch → Prop} (h : G ⟨Go.Proofs.Tryz.prog, gp, pre.length, [(RV.t 2)], R, false⟩ [.code f114_c4, .fin] ⟨args ++ List.replicate (4 - args.length) .un, pre⟩) : Tri Go.Proofs.Tryz.prog gp 114 args pre R :=
  tri_intro Go.Proofs.Tryz.func114 f114_body f114_tr f114_rs (by rw [f114_nt]; exact h)
def f117_r0 : List MO := [
(Qa (Qv 6) MOp.mkM),
(Qa (Qv 3) (Qd (Qn 6)))]
def f117_c0 : MC := .reg false f117_r0
def f117_c1 : MC := MC.skip
def f117_r2 : List MO := [
(Qa (Qv 7) (Qf 1 false (Qn 1))),
(Qa (Qv 8) (Qk Qt (Qn 7))),
(Qa (Qv 9) (Qd (Qo (Qp (Qq (Qr Qu 0))))))]
def f117_c2 : MC := .reg false f117_r2
def f117_r3 : List MO := [
(Qa (Qv 10) (Qe Qt Go.BinOp.lss (Qn 9) (Qn 8)))]
def f117_c3 : MC := .reg false f117_r3
def f117_c4 : MC := MC.skip
def f117_c5 : MC := (MC.exit 0)
def f117_c6 : MC := .cond (Qn 10) f117_c4 f117_c5
def f117_r7 : List MO := [
(Qa (Qv 11) (Qj 3 (Qn 7) (Qn 9))),
(Qa (Qv 12) (Qf 3 true (Qn 11))),
(Qa (Qv 5) (MOp.alloc [(Qr Qu 0), (Qr Qu 0), (D.str (ByteArray.mk #[]))])),
(Qa none (Ql 3 (Qn 5) (Qn 12)))]
def f117_c7 : MC := .reg false f117_r7
def f117_r8 : List MO := [
(Qa (Qv 13) (Qd (Qn 3))),
(Qa (Qv 14) (Qf 3 true (Qn 5))),
(Qa (Qv 15) (MOp.lkp false (Qp (Qq (Qs false))) true [Qt, Qt, Leaf.s] (Qn 13) (Qn 14))),
(Qa (Qv 16) (Qd (Qn 15))),
(Qb 16 false (Qv 17)),
(Qa (Qv 17) (Qd (Qn 0))),
(Qb 16 false (Qv 18)),
(Qa (Qv 18) (Qf 3 true (Qn 5))),
(Qb 16 false (Qv 19)),
(Qa (Qv 19) (MOp.callv (Qn 17) [(Qn 18)])),
(Qb 16 false (Qv 20)),
(Qa (Qv 20) (MOp.not (Qn 19))),
(Qa (Qv 21) (Qm (Qn 16) (Qo (Qp (Qq (Qs true)))) (Qn 20)))]
def f117_c8 : MC := .reg false f117_r8
def f117_c9 : MC := (MC.exit 0)
def f117_c10 : MC := MC.skip
def f117_c11 : MC := .cond (Qn 21) f117_c9 f117_c10
def f117_c12 : MC := .seq f117_c8 f117_c11
def f117_r13 : List MO := [
(Qa (Qv 22) (Qd (Qn 3))),
(Qa (Qv 23) (Qf 3 true (Qn 5))),
(Qa none (MOp.mupd true [Qt, Qt, Leaf.s] (Qn 22) (Qn 23) (Qo (Qp (Qq (Qs true))))))]
def f117_c13 : MC := .reg false f117_r13
def f117_c14 : MC := .seq f117_c12 f117_c13
def f117_c15 : MC := .seq f117_c7 f117_c14
def f117_c16 : MC := .blk 1 f117_c15
def f117_r17 : List MO := [
(Qa (Qv 24) (Qe Qt Go.BinOp.add (Qn 9) (Qo (Qp (Qq (Qr Qu 1)))))),
(Qa (Qv 9) (Qd (Qn 24)))]
def f117_c17 : MC := .reg false f117_r17
def f117_c18 : MC := .seq f117_c16 f117_c17
def f117_c19 : MC := .seq f117_c6 f117_c18
def f117_c20 : MC := .seq f117_c3 f117_c19
def f117_c21 : MC := .loop f117_c20
def f117_c22 : MC := .blk 0 f117_c21
def f117_c23 : MC := .seq f117_c2 f117_c22
def f117_c24 : MC := .seq f117_c1 f117_c23
def f117_c25 : MC := .seq f117_c0 f117_c24
def f117_c26 : MC := .scope f117_c25
noncomputable def f117_code : Code := (Go.Proofs.Tryz.f117.body).getD .skip
theorem f117_body : Go.Proofs.Tryz.f117.body = Qv f117_code := by kernel_rfl
theorem f117_tr : trC Go.Proofs.Tryz.prog [] f117_code = Qv f117_c26 := by kernel_rfl
theorem f117_rs : rsOf Go.Proofs.Tryz.prog Go.Proofs.Tryz.f117.results.toList = Qv [] := by kernel_rfl
theorem f117_nt : Go.Proofs.Tryz.f117.ntmps = 25 := by kernel_rfl
theorem f117_ok : callable Go.Proofs.Tryz.prog 117 = true := by kernel_rfl
theorem f117_in {gp : Heap} {args : List V} {res : V} (h : G ⟨Go.Proofs.Tryz.prog, gp, 0, [], fun r c => r = res ∧ c = [], false⟩ [.code f117_c26, .fin] ⟨args ++ List.replicate (25 - args.length) .un, []⟩) : Does Go.Proofs.Tryz.prog gp 117 args res :=
  does_intro f117_ok Go.Proofs.Tryz.func117 f117_body f117_tr f117_rs (by rw [f117_nt]; exact h)
theorem f117_tri {gp : Heap} {args : List V} {pre : List Ch} {R : V → List Ch → Prop} (h : G ⟨Go.Proofs.Tryz.prog, gp, pre.length, [], R, false⟩ [.code f117_c26, .fin] ⟨args ++ List.replicate (25 - args.length) .un, pre⟩) : Tri Go.Proofs.Tryz.prog gp 117 args pre R :=
  tri_intro Go.Proofs.Tryz.func117 f117_body f117_tr f117_rs (by rw [f117_nt]; exact h)
end Go.Fw.L07
