/- Small codes. -/
import Derived.Test.YtfonfncokpdaaaaGreatDoorFd
import Derived.Test.YtfonfncokpdaaaaGreatDoorProg
set_option linter.all false
namespace Go.Fw.L07
open Go Go.Fw
open Go.Fw.MO renaming op → Qa, chk → Qb, opx → Qc
open Go.Fw.MOp renaming mv → Qd, bin → Qe, load → Qf, fad → Qg, call → Qh, ext → Qi, iad → Qj, len → Qk, store → Ql, pick → Qm
open Go.Fw.Opd renaming t → Qn, c → Qo
open Go.Fw.V renaming one → Qp
open Go.Fw.A renaming d → Qq
open Go.Fw.D renaming int → Qr, bool → Qs
open Go.Fw.Leaf renaming i → Qt
open Go.IntKind renaming i64 → Qu
open Option renaming some → Qv
def f22_r0 : List MO := [
(Qa (Qv 1) (MOp.ibox (Qn 0))),
(Qa (Qv 2) (MOp.alloc [(Qr Qu 0), (D.sl [])])),
(Qa (Qv 3) (Qd (Qo (Qp (Qq (Qr Qu 0))))))]
def f22_c0 : MC := .reg false f22_r0
def f22_r1 : List MO := [
(Qa (Qv 14) (Qf 2 true (Qn 1))),
(Qa (Qv 15) (Qh 33 [(Qn 14)])),
(Qa (Qv 13) (Qd (Qn 15))),
(Qa (Qv 16) (Qi (Qn 13) 0)),
(Qa (Qv 17) (Qi (Qn 13) 1)),
(Qa (Qv 4) (Qd (Qn 16))),
(Qa (Qv 5) (Qd (Qn 17)))]
def f22_c1 : MC := .reg false f22_r1
def f22_r2 : List MO := [
(Qa (Qv 18) (Qd (Qn 5))),
(Qa (Qv 19) (Qe Qt Go.BinOp.neq (Qn 18) (Qo (Qp (Qq (Qr Qu 0))))))]
def f22_c2 : MC := .reg false f22_r2
def f22_r3 : List MO := [
(Qa (Qv 20) (MOp.build [(Qr Qu 0), (D.sl [])] [])),
(Qa (Qv 21) (Qd (Qn 5))),
(Qa none (Ql 2 (Qn 2) (Qn 20))),
(Qa (Qv 3) (Qd (Qn 21)))]
def f22_c3 : MC := .reg false f22_r3
def f22_c4 : MC := MC.ret
def f22_c5 : MC := .seq f22_c3 f22_c4
def f22_c6 : MC := MC.skip
def f22_c7 : MC := .cond (Qn 19) f22_c5 f22_c6
def f22_c8 : MC := .seq f22_c2 f22_c7
def f22_c9 : MC := .seq f22_c1 f22_c8
def f22_r10 : List MO := [
(Qa (Qv 22) (Qf 2 true (Qn 1))),
(Qa (Qv 23) (Qh 35 [(Qn 22)])),
(Qa (Qv 6) (Qd (Qn 23)))]
def f22_c10 : MC := .reg false f22_r10
def f22_r11 : List MO := [
(Qa (Qv 7) (MOp.alloc [(Qr Qu 0), (D.sl [])]))]
def f22_c11 : MC := .reg false f22_r11
def f22_r12 : List MO := [
(Qa (Qv 24) (Qd (Qn 6))),
(Qa (Qv 25) (Qh 36 [(Qn 24)])),
(Qa (Qv 26) (Qk Qt (Qn 25))),
(Qa (Qv 27) (Qd (Qo (Qp (Qq (Qr Qu 0))))))]
def f22_c12 : MC := .reg false f22_r12
def f22_r13 : List MO := [
(Qa (Qv 28) (Qe Qt Go.BinOp.lss (Qn 27) (Qn 26)))]
def f22_c13 : MC := .reg false f22_r13
def f22_c14 : MC := MC.skip
def f22_c15 : MC := (MC.exit 0)
def f22_c16 : MC := .cond (Qn 28) f22_c14 f22_c15
def f22_r17 : List MO := [
(Qa (Qv 29) (Qj 1 (Qn 25) (Qn 27))),
(Qa (Qv 30) (Qf 1 false (Qn 29))),
(Qa (Qv 9) (Qd (Qn 30)))]
def f22_c17 : MC := .reg false f22_r17
def f22_r18 : List MO := [
(Qa (Qv 31) (Qg 1 (Qn 1))),
(Qa (Qv 32) (Qf 1 false (Qn 31))),
(Qa (Qv 33) (Qd (Qn 9))),
(Qa (Qv 34) (Qj 6 (Qn 32) (Qn 33))),
(Qa (Qv 35) (Qg 0 (Qn 34))),
(Qa (Qv 36) (Qf 1 false (Qn 35))),
(Qa (Qv 37) (Qg 1 (Qn 1))),
(Qa (Qv 38) (Qf 1 false (Qn 37))),
(Qa (Qv 39) (Qd (Qn 9))),
(Qa (Qv 40) (Qj 6 (Qn 38) (Qn 39))),
(Qa (Qv 41) (Qg 1 (Qn 40))),
(Qa (Qv 42) (Qf 3 true (Qn 41))),
(Qa (Qv 43) (MOp.build [(Qr Qu 0), (Qr Qu 0), (Qr Qu 0), (D.str (ByteArray.mk #[])), (D.sl []), (D.sl [])] [(0, (1, (Qn 36))), (1, (3, (Qn 42)))])),
(Qa (Qv 10) (MOp.alloc [(Qr Qu 0), (Qr Qu 0), (Qr Qu 0), (D.str (ByteArray.mk #[])), (D.sl []), (D.sl [])])),
(Qa none (Ql 6 (Qn 10) (Qn 43)))]
def f22_c18 : MC := .reg true f22_r18
def f22_r19 : List MO := [
(Qa (Qv 45) (Qf 2 true (Qn 1))),
(Qa (Qv 46) (Qd (Qn 9))),
(Qa (Qv 47) (Qh 39 [(Qn 45), (Qn 46)])),
(Qa (Qv 44) (Qd (Qn 47))),
(Qa (Qv 48) (Qi (Qn 44) 0)),
(Qa (Qv 49) (Qi (Qn 44) 1)),
(Qa (Qv 50) (Qg 4 (Qn 10))),
(Qa none (Ql 1 (Qn 50) (Qn 48)))]
def f22_c19 : MC := .reg false f22_r19
def f22_r20 : List MO := [
(Qa (Qv 52) (Qf 2 true (Qn 1))),
(Qa (Qv 53) (Qd (Qn 9))),
(Qa (Qv 54) (Qh 34 [(Qn 52), (Qn 53)])),
(Qa (Qv 51) (Qd (Qn 54))),
(Qa (Qv 55) (Qi (Qn 51) 0)),
(Qa (Qv 56) (Qi (Qn 51) 1)),
(Qa (Qv 11) (Qd (Qn 55))),
(Qa (Qv 12) (Qd (Qn 56)))]
def f22_c20 : MC := .reg false f22_r20
def f22_r21 : List MO := [
(Qa (Qv 57) (Qd (Qn 6))),
(Qa (Qv 58) (Qd (Qn 11))),
(Qa (Qv 59) (Qh 40 [(Qn 57), (Qn 58)])),
(Qa (Qv 60) (Qg 5 (Qn 10))),
(Qa none (Ql 1 (Qn 60) (Qn 59)))]
def f22_c21 : MC := .reg false f22_r21
def f22_r22 : List MO := [
(Qa (Qv 61) (Qg 1 (Qn 7))),
(Qa (Qv 62) (Qf 1 false (Qn 61))),
(Qa (Qv 63) (Qf 6 true (Qn 10))),
(Qa (Qv 64) (MOp.bslice 6 [(Qr Qu 0), (Qr Qu 0), (Qr Qu 0), (D.str (ByteArray.mk #[])), (D.sl []), (D.sl [])] 1 [(0, (Qn 63))])),
(Qa (Qv 65) (MOp.app 6 88 (Qn 62) (Qn 64))),
(Qa (Qv 66) (Qg 1 (Qn 7))),
(Qa none (Ql 1 (Qn 66) (Qn 65)))]
def f22_c22 : MC := .reg false f22_r22
def f22_c23 : MC := .seq f22_c21 f22_c22
def f22_c24 : MC := .seq f22_c20 f22_c23
def f22_c25 : MC := .seq f22_c19 f22_c24
def f22_c26 : MC := .seq f22_c18 f22_c25
def f22_c27 : MC := .seq f22_c17 f22_c26
def f22_c28 : MC := .blk 1 f22_c27
def f22_r29 : List MO := [
(Qa (Qv 67) (Qe Qt Go.BinOp.add (Qn 27) (Qo (Qp (Qq (Qr Qu 1)))))),
(Qa (Qv 27) (Qd (Qn 67)))]
def f22_c29 : MC := .reg false f22_r29
def f22_c30 : MC := .seq f22_c28 f22_c29
def f22_c31 : MC := .seq f22_c16 f22_c30
def f22_c32 : MC := .seq f22_c13 f22_c31
def f22_c33 : MC := .loop f22_c32
def f22_c34 : MC := .blk 0 f22_c33
def f22_c35 : MC := .seq f22_c12 f22_c34
def f22_r36 : List MO := [
(Qa (Qv 68) (Qf 2 true (Qn 7))),
(Qa none (Ql 2 (Qn 2) (Qn 68))),
(Qa (Qv 3) (Qd (Qo (Qp (Qq (Qr Qu 0))))))]
def f22_c36 : MC := .reg false f22_r36
def f22_c37 : MC := MC.ret
def f22_c38 : MC := .seq f22_c36 f22_c37
def f22_c39 : MC := .seq f22_c35 f22_c38
def f22_c40 : MC := .seq f22_c11 f22_c39
def f22_c41 : MC := .seq f22_c10 f22_c40
def f22_c42 : MC := .seq f22_c9 f22_c41
def f22_c43 : MC := .seq f22_c0 f22_c42
noncomputable def f22_code : Code := (Go.Proofs.Tryz.f22.body).getD .skip
theorem f22_body : Go.Proofs.Tryz.f22.body = Qv f22_code := by kernel_rfl
theorem f22_tr : trC Go.Proofs.Tryz.prog [1] f22_code = Qv f22_c43 := by kernel_rfl
theorem f22_rs : rsOf Go.Proofs.Tryz.prog Go.Proofs.Tryz.f22.results.toList = Qv [(RV.cell 2 2 true), (RV.t 3)] := by kernel_rfl
theorem f22_nt : Go.Proofs.Tryz.f22.ntmps = 69 := by kernel_rfl
theorem f22_ok : callable Go.Proofs.Tryz.prog 22 = true := by kernel_rfl
theorem f22_in {gp : Heap} {args : List V} {res : V} (h : G ⟨Go.Proofs.Tryz.prog, gp, 0, [(RV.cell 2 2 true), (RV.t 3)], fun r c => r = res ∧ c = [], false⟩ [.code f22_c43, .fin] ⟨args ++ List.replicate (69 - args.length) .un, []⟩) : Does Go.Proofs.Tryz.prog gp 22 args res :=
  does_intro f22_ok Go.Proofs.Tryz.func22 f22_body f22_tr f22_rs (by rw [f22_nt]; exact h)
theorem f22_tri {gp : Heap} {args : List V} {pre : List Ch} {R : V → List Ch → Prop} (h : G ⟨Go.Proofs.Tryz.prog, gp, pre.length, [(RV.cell 2 2 true), (RV.t 3)], R, false⟩ [.code f22_c43, .fin] ⟨args ++ List.replicate (69 - args.length) .un, pre⟩) : Tri Go.Proofs.Tryz.prog gp 22 args pre R :=
  tri_intro Go.Proofs.Tryz.func22 f22_body f22_tr f22_rs (by rw [f22_nt]; exact h)
def f35_r0 : List MO := [
(Qa (Qv 1) (MOp.ibox (Qn 0))),
(Qa (Qv 2) (Qd (Qo (Qp (Qq D.nilP)))))]
def f35_c0 : MC := .reg false f35_r0
def f35_r1 : List MO := [
(Qa (Qv 3) (Qf 2 true (Qn 1))),
(Qa (Qv 4) MOp.mkM),
(Qa (Qv 5) (MOp.build [(Qr Qu 0), (D.sl []), (D.raw (Go.Value.map none))] [(0, (2, (Qn 3))), (2, (1, (Qn 4)))])),
(Qa (Qv 6) (MOp.box (Qn 5))),
(Qa (Qv 2) (Qd (Qn 6)))]
def f35_c1 : MC := .reg false f35_r1
def f35_c2 : MC := MC.ret
def f35_c3 : MC := .seq f35_c1 f35_c2
def f35_c4 : MC := .seq f35_c0 f35_c3
noncomputable def f35_code : Code := (Go.Proofs.Tryz.f35.body).getD .skip
theorem f35_body : Go.Proofs.Tryz.f35.body = Qv f35_code := by kernel_rfl
theorem f35_tr : trC Go.Proofs.Tryz.prog [1] f35_code = Qv f35_c4 := by kernel_rfl
theorem f35_rs : rsOf Go.Proofs.Tryz.prog Go.Proofs.Tryz.f35.results.toList = Qv [(RV.t 2)] := by kernel_rfl
theorem f35_nt : Go.Proofs.Tryz.f35.ntmps = 7 := by kernel_rfl
theorem f35_ok : callable Go.Proofs.Tryz.prog 35 = true := by kernel_rfl
theorem f35_in {gp : Heap} {args : List V} {res : V} (h : G ⟨Go.Proofs.Tryz.prog, gp, 0, [(RV.t 2)], fun r c => r = res ∧ c = [], false⟩ [.code f35_c4, .fin] ⟨args ++ List.replicate (7 - args.length) .un, []⟩) : Does Go.Proofs.Tryz.prog gp 35 args res :=
  does_intro f35_ok Go.Proofs.Tryz.func35 f35_body f35_tr f35_rs (by rw [f35_nt]; exact h)
theorem f35_tri {gp : Heap} {args : List V} {pre : List Ch} {R : V → List Ch → Prop} (h : G ⟨Go.Proofs.Tryz.prog, gp, pre.length, [(RV.t 2)], R, false⟩ [.code f35_c4, .fin] ⟨args ++ List.replicate (7 - args.length) .un, pre⟩) : Tri Go.Proofs.Tryz.prog gp 35 args pre R :=
  tri_intro Go.Proofs.Tryz.func35 f35_body f35_tr f35_rs (by rw [f35_nt]; exact h)
def f36_r0 : List MO := [
(Qa (Qv 2) (Qd (Qo (Qp A.nil))))]
def f36_c0 : MC := .reg false f36_r0
def f36_r1 : List MO := [
(Qa (Qv 3) (MOp.alloc [(D.sl [])]))]
def f36_c1 : MC := .reg false f36_r1
def f36_r2 : List MO := [
(Qa (Qv 5) (Qd (Qn 0))),
(Qa (Qv 6) (Qh 55 [(Qn 5)]))]
def f36_c2 : MC := .reg false f36_r2
def f36_r3 : List MO := [
(Qa (Qv 4) (Qd (Qn 7)))]
def f36_c3 : MC := .reg false f36_r3
def f36_r4 : List MO := [
(Qa (Qv 8) (Qf 1 false (Qn 3))),
(Qa (Qv 9) (Qd (Qn 4))),
(Qa (Qv 10) (MOp.bslice 1 [(Qr Qu 0)] 1 [(0, (Qn 9))])),
(Qa (Qv 11) (MOp.app 1 8 (Qn 8) (Qn 10))),
(Qa none (Ql 1 (Qn 3) (Qn 11)))]
def f36_c4 : MC := .reg false f36_r4
def f36_c5 : MC := .blk 1 f36_c4
def f36_c6 : MC := .rf (Qn 6) [7] f36_c3 f36_c5
def f36_c7 : MC := .blk 0 f36_c6
def f36_c8 : MC := .seq f36_c2 f36_c7
def f36_r9 : List MO := [
(Qa (Qv 12) (Qf 1 false (Qn 3))),
(Qa (Qv 2) (Qd (Qn 12)))]
def f36_c9 : MC := .reg false f36_r9
def f36_c10 : MC := MC.ret
def f36_c11 : MC := .seq f36_c9 f36_c10
def f36_c12 : MC := .seq f36_c8 f36_c11
def f36_c13 : MC := .seq f36_c1 f36_c12
def f36_c14 : MC := .seq f36_c0 f36_c13
noncomputable def f36_code : Code := (Go.Proofs.Tryz.f36.body).getD .skip
theorem f36_body : Go.Proofs.Tryz.f36.body = Qv f36_code := by kernel_rfl
theorem f36_tr : trC Go.Proofs.Tryz.prog [] f36_code = Qv f36_c14 := by kernel_rfl
theorem f36_rs : rsOf Go.Proofs.Tryz.prog Go.Proofs.Tryz.f36.results.toList = Qv [(RV.t 2)] := by kernel_rfl
theorem f36_nt : Go.Proofs.Tryz.f36.ntmps = 13 := by kernel_rfl
theorem f36_ok : callable Go.Proofs.Tryz.prog 36 = true := by kernel_rfl
theorem f36_in {gp : Heap} {args : List V} {res : V} (h : G ⟨Go.Proofs.Tryz.prog, gp, 0, [(RV.t 2)], fun r c => r = res ∧ c = [], false⟩ [.code f36_c14, .fin] ⟨args ++ List.replicate (13 - args.length) .un, []⟩) : Does Go.Proofs.Tryz.prog gp 36 args res :=
  does_intro f36_ok Go.Proofs.Tryz.func36 f36_body f36_tr f36_rs (by rw [f36_nt]; exact h)
theorem f36_tri {gp : Heap} {args : List V} {pre : List Ch} {R : V → List Ch → Prop} (h : G ⟨Go.Proofs.Tryz.prog, gp, pre.length, [(RV.t 2)], R, false⟩ [.code f36_c14, .fin] ⟨args ++ List.replicate (13 - args.length) .un, pre⟩) : Tri Go.Proofs.Tryz.prog gp 36 args pre R :=
  tri_intro Go.Proofs.Tryz.func36 f36_body f36_tr f36_rs (by rw [f36_nt]; exact h)
def f40_r0 : List MO := [
(Qa (Qv 4) (Qd (Qo (Qp A.nil))))]
def f40_c0 : MC := .reg false f40_r0
def f40_r1 : List MO := [
(Qa (Qv 8) (Qd (Qn 1))),
(Qa (Qv 9) (Qk Qt (Qn 8))),
(Qa (Qv 10) (MOp.mkS 1 8 [(Qr Qu 0)] (Qn 9))),
(Qa (Qv 5) (Qd (Qn 10)))]
def f40_c1 : MC := .reg false f40_r1
def f40_r2 : List MO := [
(Qa (Qv 11) (Qd (Qn 5))),
(Qa (Qv 12) (Qd (Qn 1))),
(Qa (Qv 13) (MOp.cpy 1 (Qn 11) (Qn 12)))]
def f40_c2 : MC := .reg false f40_r2
def f40_r3 : List MO := [
(Qa (Qv 14) (Qd (Qn 5))),
(Qa (Qv 15) (Qk Qt (Qn 14))),
(Qa (Qv 16) (Qd (Qo (Qp (Qq (Qr Qu 0))))))]
def f40_c3 : MC := .reg false f40_r3
def f40_r4 : List MO := [
(Qa (Qv 17) (Qe Qt Go.BinOp.lss (Qn 16) (Qn 15)))]
def f40_c4 : MC := .reg false f40_r4
def f40_c5 : MC := MC.skip
def f40_c6 : MC := (MC.exit 0)
def f40_c7 : MC := .cond (Qn 17) f40_c5 f40_c6
def f40_r8 : List MO := [
(Qa (Qv 18) (Qd (Qn 16))),
(Qa (Qv 19) (Qj 1 (Qn 14) (Qn 16))),
(Qa (Qv 20) (Qf 1 false (Qn 19))),
(Qa (Qv 6) (Qd (Qn 18))),
(Qa (Qv 7) (Qd (Qn 20)))]
def f40_c8 : MC := .reg false f40_r8
def f40_r9 : List MO := [
(Qa (Qv 21) (Qd (Qn 5))),
(Qa (Qv 22) (Qd (Qn 6))),
(Qa (Qv 23) (Qd (Qn 0))),
(Qa (Qv 24) (MOp.nck (Qn 23))),
(Qa (Qv 25) (Qg 2 (Qn 24))),
(Qa (Qv 26) (Qf 1 false (Qn 25))),
(Qa (Qv 27) (Qd (Qn 7))),
(Qa (Qv 28) (MOp.lkp false (Qp (Qq (Qr Qu 0))) false [Qt] (Qn 26) (Qn 27))),
(Qa (Qv 29) (Qj 1 (Qn 21) (Qn 22))),
(Qa none (Ql 1 (Qn 29) (Qn 28)))]
def f40_c9 : MC := .reg false f40_r9
def f40_c10 : MC := .seq f40_c8 f40_c9
def f40_c11 : MC := .blk 1 f40_c10
def f40_r12 : List MO := [
(Qa (Qv 30) (Qe Qt Go.BinOp.add (Qn 16) (Qo (Qp (Qq (Qr Qu 1)))))),
(Qa (Qv 16) (Qd (Qn 30)))]
def f40_c12 : MC := .reg false f40_r12
def f40_c13 : MC := .seq f40_c11 f40_c12
def f40_c14 : MC := .seq f40_c7 f40_c13
def f40_c15 : MC := .seq f40_c4 f40_c14
def f40_c16 : MC := .loop f40_c15
def f40_c17 : MC := .blk 0 f40_c16
def f40_c18 : MC := .seq f40_c3 f40_c17
def f40_r19 : List MO := [
(Qa (Qv 31) (Qd (Qn 5))),
(Qa (Qv 4) (Qd (Qn 31)))]
def f40_c19 : MC := .reg false f40_r19
def f40_c20 : MC := MC.ret
def f40_c21 : MC := .seq f40_c19 f40_c20
def f40_c22 : MC := .seq f40_c18 f40_c21
def f40_c23 : MC := .seq f40_c2 f40_c22
def f40_c24 : MC := .seq f40_c1 f40_c23
def f40_c25 : MC := .seq f40_c0 f40_c24
noncomputable def f40_code : Code := (Go.Proofs.Tryz.f40.body).getD .skip
theorem f40_body : Go.Proofs.Tryz.f40.body = Qv f40_code := by kernel_rfl
theorem f40_tr : trC Go.Proofs.Tryz.prog [] f40_code = Qv f40_c25 := by kernel_rfl
theorem f40_rs : rsOf Go.Proofs.Tryz.prog Go.Proofs.Tryz.f40.results.toList = Qv [(RV.t 4)] := by kernel_rfl
theorem f40_nt : Go.Proofs.Tryz.f40.ntmps = 32 := by kernel_rfl
theorem f40_ok : callable Go.Proofs.Tryz.prog 40 = true := by kernel_rfl
theorem f40_in {gp : Heap} {args : List V} {res : V} (h : G ⟨Go.Proofs.Tryz.prog, gp, 0, [(RV.t 4)], fun r c => r = res ∧ c = [], false⟩ [.code f40_c25, .fin] ⟨args ++ List.replicate (32 - args.length) .un, []⟩) : Does Go.Proofs.Tryz.prog gp 40 args res :=
  does_intro f40_ok Go.Proofs.Tryz.func40 f40_body f40_tr f40_rs (by rw [f40_nt]; exact h)
theorem f40_tri {gp : Heap} {args : List V} {pre : List Ch} {R : V → List Ch → Prop} (h : G ⟨Go.Proofs.Tryz.prog, gp, pre.length, [(RV.t 4)], R, false⟩ [.code f40_c25, .fin] ⟨args ++ List.replicate (32 - args.length) .un, pre⟩) : Tri Go.Proofs.Tryz.prog gp 40 args pre R :=
  tri_intro Go.Proofs.Tryz.func40 f40_body f40_tr f40_rs (by rw [f40_nt]; exact h)
def f55_r0 : List MO := [
(Qa (Qv 1) (MOp.box (Qn 0))),
(Qa (Qv 2) (Qd (Qo (Qp (Qq D.nilF)))))]
def f55_c0 : MC := .reg false f55_r0
def f55_r1 : List MO := [
(Qa (Qv 3) (MOp.mkF (Go.Fn.func 73) [(Qn 1)])),
(Qa (Qv 2) (Qd (Qn 3)))]
def f55_c1 : MC := .reg false f55_r1
def f55_c2 : MC := MC.ret
def f55_c3 : MC := .seq f55_c1 f55_c2
def f55_c4 : MC := .seq f55_c0 f55_c3
noncomputable def f55_code : Code := (Go.Proofs.Tryz.f55.body).getD .skip
theorem f55_body : Go.Proofs.Tryz.f55.body = Qv f55_code := by kernel_rfl
theorem f55_tr : trC Go.Proofs.Tryz.prog [] f55_code = Qv f55_c4 := by kernel_rfl
theorem f55_rs : rsOf Go.Proofs.Tryz.prog Go.Proofs.Tryz.f55.results.toList = Qv [(RV.t 2)] := by kernel_rfl
theorem f55_nt : Go.Proofs.Tryz.f55.ntmps = 4 := by kernel_rfl
theorem f55_ok : callable Go.Proofs.Tryz.prog 55 = true := by kernel_rfl
theorem f55_in {gp : Heap} {args : List V} {res : V} (h : G ⟨Go.Proofs.Tryz.prog, gp, 0, [(RV.t 2)], fun r c => r = res ∧ c = [], false⟩ [.code f55_c4, .fin] ⟨args ++ List.replicate (4 - args.length) .un, []⟩) : Does Go.Proofs.Tryz.prog gp 55 args res :=
  does_intro f55_ok Go.Proofs.Tryz.func55 f55_body f55_tr f55_rs (by rw [f55_nt]; exact h)
theorem f55_tri {gp : Heap} {args : List V} {pre : List Ch} {R : V → List Ch → Prop} (h : G ⟨Go.Proofs.Tryz.prog, gp, pre.length, [(RV.t 2)], R, false⟩ [.code f55_c4, .fin] ⟨args ++ List.replicate (4 - args.length) .un, pre⟩) : Tri Go.Proofs.Tryz.prog gp 55 args pre R :=
  tri_intro Go.Proofs.Tryz.func55 f55_body f55_tr f55_rs (by rw [f55_nt]; exact h)
def f73_r0 : List MO := [
(Qa (Qv 10) (Qf 1 false (Qn 1))),
(Qa (Qv 11) (MOp.nck (Qn 10))),
(Qa (Qv 12) (Qg 0 (Qn 11))),
(Qa (Qv 13) (Qg 0 (Qn 12))),
(Qa (Qv 14) (Qf 1 false (Qn 13))),
(Qa (Qv 15) (MOp.bslO 1 [(Qr Qu 0)] 1 [(0, (Qn 14))])),
(Qa (Qv 3) (MOp.alloc [(D.sl [])])),
(Qa none (Ql 1 (Qn 3) (Qn 15)))]
def f73_c0 : MC := .reg false f73_r0
def f73_r1 : List MO := [
(Qa (Qv 16) (MOp.mkF (Go.Fn.func 74) [(Qn 3)])),
(Qa (Qv 4) (Qd (Qn 16)))]
def f73_c1 : MC := .reg false f73_r1
def f73_c2 : MC := MC.skip
def f73_r3 : List MO := [
(Qa (Qv 17) (Qf 1 false (Qn 3))),
(Qa (Qv 18) (Qk Qt (Qn 17))),
(Qa (Qv 19) (Qe Qt Go.BinOp.gtr (Qn 18) (Qo (Qp (Qq (Qr Qu 0))))))]
def f73_c3 : MC := .reg false f73_r3
def f73_c4 : MC := MC.skip
def f73_c5 : MC := (MC.exit 0)
def f73_c6 : MC := .cond (Qn 19) f73_c4 f73_c5
def f73_c7 : MC := .seq f73_c3 f73_c6
def f73_r8 : List MO := [
(Qa (Qv 20) (Qf 1 false (Qn 3))),
(Qa (Qv 21) (Qf 1 false (Qn 3))),
(Qa (Qv 22) (Qk Qt (Qn 21))),
(Qa (Qv 23) (Qe Qt Go.BinOp.sub (Qn 22) (Qo (Qp (Qq (Qr Qu 1)))))),
(Qa (Qv 24) (Qj 1 (Qn 20) (Qn 23))),
(Qa (Qv 25) (Qf 1 false (Qn 24))),
(Qa (Qv 5) (Qd (Qn 25)))]
def f73_c8 : MC := .reg false f73_r8
def f73_r9 : List MO := [
(Qa (Qv 26) (Qf 1 false (Qn 3))),
(Qa (Qv 27) (Qf 1 false (Qn 3))),
(Qa (Qv 28) (Qk Qt (Qn 27))),
(Qa (Qv 29) (Qe Qt Go.BinOp.sub (Qn 28) (Qo (Qp (Qq (Qr Qu 1)))))),
(Qa (Qv 30) (MOp.slc 1 (Qn 26) none (Qv (Qn 29)))),
(Qa none (Ql 1 (Qn 3) (Qn 30)))]
def f73_c9 : MC := .reg false f73_r9
def f73_r10 : List MO := [
(Qa (Qv 32) (Qf 1 false (Qn 1))),
(Qa (Qv 33) (MOp.nck (Qn 32))),
(Qa (Qv 34) (Qg 2 (Qn 33))),
(Qa (Qv 35) (Qf 1 false (Qn 34))),
(Qa (Qv 36) (Qd (Qn 5))),
(Qa (Qv 37) (MOp.lkp true (Qp (Qq (Qr Qu 0))) false [Qt] (Qn 35) (Qn 36))),
(Qa (Qv 31) (Qd (Qn 37))),
(Qa (Qv 38) (Qi (Qn 31) 0)),
(Qa (Qv 39) (Qi (Qn 31) 1)),
(Qa (Qv 6) (Qd (Qn 38))),
(Qa (Qv 7) (Qd (Qn 39)))]
def f73_c10 : MC := .reg false f73_r10
def f73_r11 : List MO := [
(Qa (Qv 40) (Qd (Qn 7)))]
def f73_c11 : MC := .reg false f73_r11
def f73_c12 : MC := (MC.exit 1)
def f73_c13 : MC := MC.skip
def f73_c14 : MC := .cond (Qn 40) f73_c12 f73_c13
def f73_c15 : MC := .seq f73_c11 f73_c14
def f73_c16 : MC := .seq f73_c10 f73_c15
def f73_r17 : List MO := [
(Qa (Qv 41) (Qf 1 false (Qn 1))),
(Qa (Qv 42) (MOp.nck (Qn 41))),
(Qa (Qv 43) (Qg 2 (Qn 42))),
(Qa (Qv 44) (Qf 1 false (Qn 43))),
(Qa (Qv 45) (Qd (Qn 5))),
(Qa (Qv 46) (Qf 1 false (Qn 1))),
(Qa (Qv 47) (MOp.nck (Qn 46))),
(Qa (Qv 48) (Qg 2 (Qn 47))),
(Qa (Qv 49) (Qf 1 false (Qn 48))),
(Qa (Qv 50) (Qk Leaf.b (Qn 49))),
(Qa none (MOp.mupd false [Qt] (Qn 44) (Qn 45) (Qn 50)))]
def f73_c17 : MC := .reg true f73_r17
def f73_r18 : List MO := [
(Qa (Qv 51) (Qd (Qn 0))),
(Qa (Qv 52) (Qd (Qn 5))),
(Qa (Qv 53) (MOp.callv (Qn 51) [(Qn 52)])),
(Qa (Qv 54) (MOp.not (Qn 53)))]
def f73_c18 : MC := .reg false f73_r18
def f73_c19 : MC := (MC.exit 0)
def f73_c20 : MC := MC.skip
def f73_c21 : MC := .cond (Qn 54) f73_c19 f73_c20
def f73_c22 : MC := .seq f73_c18 f73_c21
def f73_r23 : List MO := [
(Qa (Qv 56) (Qf 1 false (Qn 1))),
(Qa (Qv 57) (MOp.nck (Qn 56))),
(Qa (Qv 58) (Qg 0 (Qn 57))),
(Qa (Qv 59) (Qf 2 true (Qn 58))),
(Qa (Qv 60) (Qd (Qn 5))),
(Qa (Qv 61) (Qh 34 [(Qn 59), (Qn 60)])),
(Qa (Qv 55) (Qd (Qn 61))),
(Qa (Qv 62) (Qi (Qn 55) 0)),
(Qa (Qv 63) (Qi (Qn 55) 1)),
(Qa (Qv 8) (Qd (Qn 62))),
(Qa (Qv 9) (Qd (Qn 63)))]
def f73_c23 : MC := .reg false f73_r23
def f73_r24 : List MO := [
(Qa (Qv 64) (Qd (Qn 4))),
(Qa (Qv 65) (Qd (Qn 8))),
(Qa (Qv 66) (MOp.callv (Qn 64) [(Qn 65)]))]
def f73_c24 : MC := .reg false f73_r24
def f73_c25 : MC := .seq f73_c23 f73_c24
def f73_c26 : MC := .seq f73_c22 f73_c25
def f73_c27 : MC := .seq f73_c17 f73_c26
def f73_c28 : MC := .seq f73_c16 f73_c27
def f73_c29 : MC := .seq f73_c9 f73_c28
def f73_c30 : MC := .seq f73_c8 f73_c29
def f73_c31 : MC := .blk 1 f73_c30
def f73_c32 : MC := .seq f73_c7 f73_c31
def f73_c33 : MC := .loop f73_c32
def f73_c34 : MC := .blk 0 f73_c33
def f73_c35 : MC := .seq f73_c2 f73_c34
def f73_c36 : MC := .seq f73_c1 f73_c35
def f73_c37 : MC := .seq f73_c0 f73_c36
def f73_c38 : MC := .scope f73_c37
noncomputable def f73_code : Code := (Go.Proofs.Tryz.f73.body).getD .skip
theorem f73_body : Go.Proofs.Tryz.f73.body = Qv f73_code := by kernel_rfl
theorem f73_tr : trC Go.Proofs.Tryz.prog [15] f73_code = Qv f73_c38 := by kernel_rfl
theorem f73_rs : rsOf Go.Proofs.Tryz.prog Go.Proofs.Tryz.f73.results.toList = Qv [] := by kernel_rfl
theorem f73_nt : Go.Proofs.Tryz.f73.ntmps = 67 := by kernel_rfl
theorem f73_ok : callable Go.Proofs.Tryz.prog 73 = true := by kernel_rfl
theorem f73_in {gp : Heap} {args : List V} {res : V} (h : G ⟨Go.Proofs.Tryz.prog, gp, 0, [], fun r c => r = res ∧ c = [], false⟩ [.code f73_c38, .fin] ⟨args ++ List.replicate (67 - args.length) .un, []⟩) : Does Go.Proofs.Tryz.prog gp 73 args res :=
  does_intro f73_ok Go.Proofs.Tryz.func73 f73_body f73_tr f73_rs (by rw [f73_nt]; exact h)
theorem f73_tri {gp : Heap} {args : List V} {pre : List Ch} {R : V → List Ch → Prop} (h : G ⟨Go.Proofs.Tryz.prog, gp, pre.length, [], R, false⟩ [.code f73_c38, .fin] ⟨args ++ List.replicate (67 - args.length) .un, pre⟩) : Tri Go.Proofs.Tryz.prog gp 73 args pre R :=
  tri_intro Go.Proofs.Tryz.func73 f73_body f73_tr f73_rs (by rw [f73_nt]; exact h)
def f74_r0 : List MO := [
(Qa (Qv 4) (Qd (Qn 0))),
(Qa (Qv 5) (Qk Qt (Qn 4))),
(Qa (Qv 6) (Qe Qt Go.BinOp.sub (Qn 5) (Qo (Qp (Qq (Qr Qu 1)))))),
(Qa (Qv 3) (Qd (Qn 6)))]
def f74_c0 : MC := .reg false f74_r0
def f74_r1 : List MO := [
(Qa (Qv 7) (Qd (Qn 3))),
(Qa (Qv 8) (Qe Qt Go.BinOp.geq (Qn 7) (Qo (Qp (Qq (Qr Qu 0))))))]
def f74_c1 : MC := .reg false f74_r1
def f74_c2 : MC := MC.skip
def f74_c3 : MC := (MC.exit 0)
def f74_c4 : MC := .cond (Qn 8) f74_c2 f74_c3
def f74_c5 : MC := .seq f74_c1 f74_c4
def f74_r6 : List MO := [
(Qa (Qv 11) (Qf 1 false (Qn 1))),
(Qa (Qv 12) (Qd (Qn 0))),
(Qa (Qv 13) (Qd (Qn 3))),
(Qa (Qv 14) (Qj 1 (Qn 12) (Qn 13))),
(Qa (Qv 15) (Qf 1 false (Qn 14))),
(Qa (Qv 16) (MOp.bslice 1 [(Qr Qu 0)] 1 [(0, (Qn 15))])),
(Qa (Qv 17) (MOp.app 1 8 (Qn 11) (Qn 16))),
(Qa none (Ql 1 (Qn 1) (Qn 17)))]
def f74_c6 : MC := .reg true f74_r6
def f74_c7 : MC := .blk 1 f74_c6
def f74_r8 : List MO := [
(Qa (Qv 9) (Qd (Qn 3))),
(Qa (Qv 10) (Qe Qt Go.BinOp.sub (Qn 9) (Qo (Qp (Qq (Qr Qu 1)))))),
(Qa (Qv 3) (Qd (Qn 10)))]
def f74_c8 : MC := .reg false f74_r8
def f74_c9 : MC := .seq f74_c7 f74_c8
def f74_c10 : MC := .seq f74_c5 f74_c9
def f74_c11 : MC := .loop f74_c10
def f74_c12 : MC := .blk 0 f74_c11
def f74_c13 : MC := .seq f74_c0 f74_c12
noncomputable def f74_code : Code := (Go.Proofs.Tryz.f74.body).getD .skip
theorem f74_body : Go.Proofs.Tryz.f74.body = Qv f74_code := by kernel_rfl
theorem f74_tr : trC Go.Proofs.Tryz.prog [] f74_code = Qv f74_c13 := by kernel_rfl
theorem f74_rs : rsOf Go.Proofs.Tryz.prog Go.Proofs.Tryz.f74.results.toList = Qv [] := by kernel_rfl
theorem f74_nt : Go.Proofs.Tryz.f74.ntmps = 18 := by kernel_rfl
theorem f74_ok : callable Go.Proofs.Tryz.prog 74 = true := by kernel_rfl
theorem f74_in {gp : Heap} {args : List V} {res : V} (h : G ⟨Go.Proofs.Tryz.prog, gp, 0, [], fun r c => r = res ∧ c = [], false⟩ [.code f74_c13, .fin] ⟨args ++ List.replicate (18 - args.length) .un, []⟩) : Does Go.Proofs.Tryz.prog gp 74 args res :=
  does_intro f74_ok Go.Proofs.Tryz.func74 f74_body f74_tr f74_rs (by rw [f74_nt]; exact h)
theorem f74_tri {gp : Heap} {args : List V} {pre : List Ch} {R : V → List Ch → Prop} (h : G ⟨Go.Proofs.Tryz.prog, gp, pre.length, [], R, false⟩ [.code f74_c13, .fin] ⟨args ++ List.replicate (18 - args.length) .un, pre⟩) : Tri Go.Proofs.Tryz.prog gp 74 args pre R :=
  tri_intro Go.Proofs.Tryz.func74 f74_body f74_tr f74_rs (by rw [f74_nt]; exact h)
end Go.Fw.L07
