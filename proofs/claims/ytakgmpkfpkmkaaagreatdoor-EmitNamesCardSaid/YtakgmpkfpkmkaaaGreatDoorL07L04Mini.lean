/- Small codes. -/
import Derived.Test.YtakgmpkfpkmkaaaGreatDoorFd
import Derived.Test.YtakgmpkfpkmkaaaGreatDoorProg
set_option linter.all false
namespace Go.Fw.L07
open Go Go.Fw
open Go.Proofs.Tryz renaming prog -> QP
open Go.Proofs.Tryz (f100 f136 f164 f19 f27 f36 f37 f38 f39 f64 f66 f94 f96 f97 f98 f99 func100 func136 func164 func19 func27 func36 func37 func38 func39 func64 func66 func94 func96 func97 func98 func99)
open Go.Fw.MO renaming op -> Qa,chk -> Qb,opx -> Qc
open Go.Fw.MOp renaming mv -> Qd,bin -> Qe,load -> Qf,fad -> Qg,call -> Qh,ext -> Qi,iad -> Qj,len -> Qk,store -> Ql,pick -> Qm
open Go.Fw.Opd renaming t -> Qn,c -> Qo
open Go.Fw.V renaming one -> Qp
open Go.Fw.A renaming d -> Qq
open Go.Fw.D renaming int -> Qr,bool -> Qs
open Go.Fw.Leaf renaming i -> Qt
open Go.IntKind renaming i64 -> Qu
open Option renaming some -> Qv
variable {gp : Heap} {args : List V} {res : V} {pre : List Ch} {R : V -> List Ch -> Prop}
def f19_r0:List MO:=[Qa (Qv 1) (MOp.ibox (Qn 0)),Qa (Qv 2) (Qd (Qo (Qp (Qq (D.str (ByteArray.mk #[])))))),Qa (Qv 3) (Qd (Qo (Qp (Qq (Qr Qu 0)))))]
def f19_c0:MC:=.r0 f19_r0
def f19_r1:List MO:=[Qa (Qv 6) (Qf 3 true (Qn 1)),Qa (Qv 7) (Qh 35 [(Qn 6)]),Qa (Qv 8) (MOp.not (Qn 7))]
def f19_c1:MC:=.r0 f19_r1
def f19_r2:List MO:=[Qa (Qv 2) (Qd (Qo (Qp (Qq (D.str (ByteArray.mk #[])))))),Qa (Qv 3) (Qd (Qo (Qp (Qq (Qr Qu 60)))))]
def f19_c2:MC:=.r0 f19_r2
def f19_r8:List MO:=[Qa (Qv 9) (Qf 3 true (Qn 1)),Qa (Qv 10) (MOp.build [(Qr Qu 0),(Qr Qu 0),(D.str (ByteArray.mk #[]))] [(0,(3,(Qn 9)))]),Qa (Qv 4) (MOp.alloc [(Qr Qu 0),(Qr Qu 0),(D.str (ByteArray.mk #[]))]),Qa none (Ql 3 (Qn 4) (Qn 10))]
def f19_c8:MC:=.r0 f19_r8
def f19_r9:List MO:=[Qa (Qv 11) (Qf 3 true (Qn 4)),Qa (Qv 12) (MOp.mkMv (Go.Fn.func 36) (Qn 11)),Qa (Qv 13) (Qf 3 true (Qn 4)),Qa (Qv 14) (MOp.mkMv (Go.Fn.func 37) (Qn 13)),Qa (Qv 15) (Qf 3 true (Qn 4)),Qa (Qv 16) (MOp.mkMv (Go.Fn.func 38) (Qn 15)),Qa (Qv 17) (Qf 3 true (Qn 4)),Qa (Qv 18) (MOp.mkMv (Go.Fn.func 39) (Qn 17)),Qa (Qv 19) (MOp.build [D.nilF,D.nilF,D.nilF,D.nilF] [(0,(1,(Qn 12))),(1,(1,(Qn 14))),(2,(1,(Qn 16))),(3,(1,(Qn 18)))]),Qa (Qv 5) (MOp.alloc [D.nilF,D.nilF,D.nilF,D.nilF]),Qa none (Ql 4 (Qn 5) (Qn 19))]
def f19_c9:MC:=.r0 f19_r9
def f19_r10:List MO:=[Qa (Qv 20) (Qg 0 (Qn 1)),Qa (Qv 21) (Qf 1 false (Qn 20)),Qa (Qv 22) (MOp.iadA 4 1 (Qn 5) (Qn 21)),Qa (Qv 23) (Qf 1 false (Qn 22)),Qa (Qv 24) (MOp.callv (Qn 23) []),Qa (Qv 2) (Qd (Qn 24)),Qa (Qv 3) (Qd (Qo (Qp (Qq (Qr Qu 0)))))]
def f19_c10:MC:=.r0 f19_r10
def f19_c15:MC:=.seq (.seq f19_c1 (.cond (Qn 8) (.seq f19_c2 .ret) .skip)) (.seq f19_c8 (.seq f19_c9 (.seq f19_c10 .ret)))
def f19_c16:MC:=.seq f19_c0 f19_c15
attribute [go_sem] f19_r0 f19_r1 f19_r2 f19_r8 f19_r9 f19_r10
theorem f19_k : KK QP 19 f19 [1] f19_c16 [(RV.t 2),(RV.t 3)] 25 := by refine ⟨func19,?_,?_,?_,?_⟩<;>kernel_rfl
theorem f19_ok : callable QP 19 = true := by kernel_rfl
theorem f19_in (h : GI QP gp [(RV.t 2),(RV.t 3)] res 25 f19_c16 args) : Does QP gp 19 args res := f19_k.i f19_ok h
def f27_r0:List MO:=[Qa (Qv 4) (Qd (Qo (Qp (Qq (Qr Qu 0))))),Qa (Qv 5) (Qd (Qo (Qp (Qq D.nilI))))]
def f27_c0:MC:=.r0 f27_r0
def f27_r1:List MO:=[Qa (Qv 6) (Qd (Qn 0)),Qa (Qv 7) (Qh 58 [(Qn 6)])]
def f27_c1:MC:=.r0 f27_r1
def f27_r2:List MO:=[Qa (Qv 8) (Qd (Qn 0)),Qa (Qv 9) (Qd (Qn 0)),Qa (Qv 10) (MOp.nck (Qn 9)),Qa (Qv 11) (Qg 1 (Qn 10)),Qa (Qv 12) (Qf 1 false (Qn 11)),Qa (Qv 13) (Qd (Qn 1)),Qa (Qv 14) (MOp.appS 5 (Qn 12) (Qn 13)),Qa (Qv 15) (MOp.nck (Qn 8)),Qa (Qv 16) (Qg 1 (Qn 15)),Qa none (Ql 1 (Qn 16) (Qn 14))]
def f27_c2:MC:=.r0 f27_r2
def f27_r3:List MO:=[Qa (Qv 17) (Qd (Qn 1)),Qa (Qv 18) (Qk Leaf.s (Qn 17)),Qa (Qv 4) (Qd (Qn 18)),Qa (Qv 5) (Qd (Qo (Qp (Qq D.nilI))))]
def f27_c3:MC:=.r0 f27_r3
def f27_c8:MC:=.seq f27_c0 (.seq f27_c1 (.seq f27_c2 (.seq f27_c3 .ret)))
attribute [go_sem] f27_r0 f27_r1 f27_r2 f27_r3
theorem f27_k : KK QP 27 f27 [] f27_c8 [(RV.t 4),(RV.t 5)] 19 := by refine ⟨func27,?_,?_,?_,?_⟩<;>kernel_rfl
theorem f27_ok : callable QP 27 = true := by kernel_rfl
theorem f27_tri (h : GT QP gp [(RV.t 4),(RV.t 5)] pre R 19 f27_c8 args) : Tri QP gp 27 args pre R := f27_k.t h
-- f28: trC none
def f36_r0:List MO:=[Qa (Qv 1) (MOp.ibox (Qn 0)),Qa (Qv 2) (Qd (Qo (Qp (Qq (D.str (ByteArray.mk #[]))))))]
def f36_c0:MC:=.r0 f36_r0
def f36_r1:List MO:=[Qa (Qv 2) (Qd (Qo (Qp (Qq (D.str (ByteArray.mk #[110,117,108,108]))))))]
def f36_c1:MC:=.r0 f36_r1
def f36_c4:MC:=.seq f36_c0 (.seq f36_c1 .ret)
attribute [go_sem] f36_r0 f36_r1
theorem f36_k : KK QP 36 f36 [1] f36_c4 [(RV.t 2)] 3 := by refine ⟨func36,?_,?_,?_,?_⟩<;>kernel_rfl
theorem f36_ok : callable QP 36 = true := by kernel_rfl
theorem f36_in (h : GI QP gp [(RV.t 2)] res 3 f36_c4 args) : Does QP gp 36 args res := f36_k.i f36_ok h
def f37_r0:List MO:=[Qa (Qv 1) (MOp.ibox (Qn 0)),Qa (Qv 2) (Qd (Qo (Qp (Qq (D.str (ByteArray.mk #[]))))))]
def f37_c0:MC:=.r0 f37_r0
def f37_r1:List MO:=[Qa (Qv 3) (Qg 0 (Qn 1)),Qa (Qv 4) (Qg 1 (Qn 3)),Qa (Qv 5) (Qf 1 false (Qn 4)),Qa (Qv 6) (Qe Qt Go.BinOp.eql (Qn 5) (Qo (Qp (Qq (Qr Qu 1))))),Qa (Qv 7) (Qh 64 [(Qn 6)]),Qa (Qv 2) (Qd (Qn 7))]
def f37_c1:MC:=.r0 f37_r1
def f37_c4:MC:=.seq f37_c0 (.seq f37_c1 .ret)
attribute [go_sem] f37_r0 f37_r1
theorem f37_k : KK QP 37 f37 [1] f37_c4 [(RV.t 2)] 8 := by refine ⟨func37,?_,?_,?_,?_⟩<;>kernel_rfl
theorem f37_ok : callable QP 37 = true := by kernel_rfl
theorem f37_in (h : GI QP gp [(RV.t 2)] res 8 f37_c4 args) : Does QP gp 37 args res := f37_k.i f37_ok h
def f38_r0:List MO:=[Qa (Qv 1) (MOp.ibox (Qn 0)),Qa (Qv 2) (Qd (Qo (Qp (Qq (D.str (ByteArray.mk #[]))))))]
def f38_c0:MC:=.r0 f38_r0
def f38_r1:List MO:=[Qa (Qv 3) (Qg 0 (Qn 1)),Qa (Qv 4) (Qg 1 (Qn 3)),Qa (Qv 5) (Qf 1 false (Qn 4)),Qa (Qv 6) (Qh 65 [(Qn 5)]),Qa (Qv 2) (Qd (Qn 6))]
def f38_c1:MC:=.r0 f38_r1
def f38_c4:MC:=.seq f38_c0 (.seq f38_c1 .ret)
attribute [go_sem] f38_r0 f38_r1
theorem f38_k : KK QP 38 f38 [1] f38_c4 [(RV.t 2)] 7 := by refine ⟨func38,?_,?_,?_,?_⟩<;>kernel_rfl
theorem f38_ok : callable QP 38 = true := by kernel_rfl
theorem f38_in (h : GI QP gp [(RV.t 2)] res 7 f38_c4 args) : Does QP gp 38 args res := f38_k.i f38_ok h
def f39_r0:List MO:=[Qa (Qv 1) (MOp.ibox (Qn 0)),Qa (Qv 2) (Qd (Qo (Qp (Qq (D.str (ByteArray.mk #[]))))))]
def f39_c0:MC:=.r0 f39_r0
def f39_r1:List MO:=[Qa (Qv 6) (Qg 0 (Qn 1)),Qa (Qv 7) (Qg 2 (Qn 6)),Qa (Qv 8) (Qf 1 false (Qn 7)),Qa (Qv 9) (Qh 66 [(Qn 8)]),Qa (Qv 5) (Qd (Qn 9)),Qa (Qv 10) (Qi (Qn 5) 0),Qa (Qv 11) (Qi (Qn 5) 1),Qa (Qv 3) (Qd (Qn 10)),Qa (Qv 4) (Qd (Qn 11))]
def f39_c1:MC:=.r0 f39_r1
def f39_r2:List MO:=[Qa (Qv 12) (Qd (Qn 3)),Qa (Qv 2) (Qd (Qn 12))]
def f39_c2:MC:=.r0 f39_r2
def f39_c6:MC:=.seq f39_c0 (.seq f39_c1 (.seq f39_c2 .ret))
attribute [go_sem] f39_r0 f39_r1 f39_r2
theorem f39_k : KK QP 39 f39 [1] f39_c6 [(RV.t 2)] 13 := by refine ⟨func39,?_,?_,?_,?_⟩<;>kernel_rfl
theorem f39_ok : callable QP 39 = true := by kernel_rfl
theorem f39_in (h : GI QP gp [(RV.t 2)] res 13 f39_c6 args) : Does QP gp 39 args res := f39_k.i f39_ok h
def f64_r0:List MO:=[Qa (Qv 2) (Qd (Qo (Qp (Qq (D.str (ByteArray.mk #[]))))))]
def f64_c0:MC:=.r0 f64_r0
def f64_r1:List MO:=[Qa (Qv 3) (Qd (Qn 0)),Qa (Qv 4) (Qh 94 [(Qn 3)]),Qa (Qv 2) (Qd (Qn 4))]
def f64_c1:MC:=.r0 f64_r1
def f64_c4:MC:=.seq f64_c0 (.seq f64_c1 .ret)
attribute [go_sem] f64_r0 f64_r1
theorem f64_k : KK QP 64 f64 [] f64_c4 [(RV.t 2)] 5 := by refine ⟨func64,?_,?_,?_,?_⟩<;>kernel_rfl
theorem f64_ok : callable QP 64 = true := by kernel_rfl
theorem f64_in (h : GI QP gp [(RV.t 2)] res 5 f64_c4 args) : Does QP gp 64 args res := f64_k.i f64_ok h
def f66_r0:List MO:=[Qa (Qv 2) (Qd (Qo (Qp (Qq (D.str (ByteArray.mk #[])))))),Qa (Qv 3) (Qd (Qo (Qp (Qq (Qr Qu 0)))))]
def f66_c0:MC:=.r0 f66_r0
def f66_r1:List MO:=[Qa (Qv 10) (Qd (Qn 0)),Qa (Qv 11) (Qh 63 [(Qn 10)]),Qa (Qv 12) (MOp.not (Qn 11))]
def f66_c1:MC:=.r0 f66_r1
def f66_r2:List MO:=[Qa (Qv 2) (Qd (Qo (Qp (Qq (D.str (ByteArray.mk #[])))))),Qa (Qv 3) (Qd (Qo (Qp (Qq (Qr Qu 40)))))]
def f66_c2:MC:=.r0 f66_r2
def f66_r8:List MO:=[Qa (Qv 4) (MOp.bldN 56 5)]
def f66_c8:MC:=.r0 f66_r8
def f66_r9:List MO:=[Qa (Qv 13) (MOp.mkF (Go.Fn.func 96) [(Qn 4)]),Qa (Qv 5) (Qd (Qn 13))]
def f66_c9:MC:=.r0 f66_r9
def f66_r10:List MO:=[Qa (Qv 14) (Qd (Qn 5)),Qa (Qv 15) (MOp.bslice 1 [(Qr Go.IntKind.i32 0)] 1 [(0,(Qo (Qp (Qq (Qr Go.IntKind.i32 34)))))]),Qa (Qv 16) (MOp.callv (Qn 14) [(Qn 15)])]
def f66_c10:MC:=.r0 f66_r10
def f66_r11:List MO:=[Qa (Qv 17) (Qd (Qn 0)),Qa (Qv 18) (MOp.rng (Qn 17))]
def f66_c11:MC:=.r0 f66_r11
def f66_r12:List MO:=[Qa (Qv 19) (MOp.nxt (Qn 18)),Qa (Qv 20) (Qi (Qn 19) 0)]
def f66_c12:MC:=.r0 f66_r12
def f66_r16:List MO:=[Qa (Qv 21) (Qi (Qn 19) 2),Qa (Qv 7) (Qd (Qn 21))]
def f66_c16:MC:=.r0 f66_r16
def f66_r17:List MO:=[Qa (Qv 23) (Qh 98 []),Qa (Qv 24) (Qd (Qn 7)),Qa (Qv 25) (MOp.lkp true (Qp (Qq (Qr Go.IntKind.i32 0))) false [Qt] (Qn 23) (Qn 24)),Qa (Qv 22) (Qd (Qn 25)),Qa (Qv 26) (Qi (Qn 22) 0),Qa (Qv 27) (Qi (Qn 22) 1),Qa (Qv 8) (Qd (Qn 26)),Qa (Qv 9) (Qd (Qn 27))]
def f66_c17:MC:=.r0 f66_r17
def f66_r18:List MO:=[Qa (Qv 40) (Qd (Qn 9)),Qa (Qv 39) (Qd (Qn 40))]
def f66_c18:MC:=.r0 f66_r18
def f66_r19:List MO:=[Qa (Qv 41) (Qd (Qn 5)),Qa (Qv 42) (Qd (Qn 8)),Qa (Qv 43) (MOp.bslice 1 [(Qr Go.IntKind.i32 0)] 2 [(0,(Qo (Qp (Qq (Qr Go.IntKind.i32 92))))),(1,(Qn 42))]),Qa (Qv 44) (MOp.callv (Qn 41) [(Qn 43)])]
def f66_c19:MC:=.r0 f66_r19
def f66_r20:List MO:=[Qa (Qv 46) (Qd (Qn 7)),Qa (Qv 47) (MOp.bslice 1 [(Qr Go.IntKind.i32 0)] 2 [(0,(Qo (Qp (Qq (Qr Go.IntKind.i32 34))))),(1,(Qo (Qp (Qq (Qr Go.IntKind.i32 92)))))]),Qa (Qv 48) (Qh 99 [(Qn 46),(Qn 47)]),Qa (Qv 45) (Qd (Qn 48))]
def f66_c20:MC:=.r0 f66_r20
def f66_r21:List MO:=[Qa (Qv 49) (Qd (Qn 5)),Qa (Qv 50) (Qd (Qn 7)),Qa (Qv 51) (MOp.bslice 1 [(Qr Go.IntKind.i32 0)] 2 [(0,(Qo (Qp (Qq (Qr Go.IntKind.i32 92))))),(1,(Qn 50))]),Qa (Qv 52) (MOp.callv (Qn 49) [(Qn 51)])]
def f66_c21:MC:=.r0 f66_r21
def f66_r22:List MO:=[Qa (Qv 54) (Qd (Qn 7)),Qa (Qv 55) (Qh 100 [(Qn 54)]),Qa (Qv 53) (Qd (Qn 55))]
def f66_c22:MC:=.r0 f66_r22
def f66_r23:List MO:=[Qa (Qv 56) (Qd (Qn 5)),Qa (Qv 57) (Qd (Qn 7)),Qa (Qv 58) (MOp.bslice 1 [(Qr Go.IntKind.i32 0)] 1 [(0,(Qn 57))]),Qa (Qv 59) (MOp.callv (Qn 56) [(Qn 58)])]
def f66_c23:MC:=.r0 f66_r23
def f66_r24:List MO:=[Qa (Qv 28) (Qd (Qn 5)),Qa (Qv 29) (Qd (Qn 7)),Qa (Qv 30) (Qe Qt Go.BinOp.shr (Qn 29) (Qo (Qp (Qq (Qr Go.IntKind.u64 4))))),Qa (Qv 31) (MOp.idxS (Qo (Qp (Qq (D.str (ByteArray.mk #[48,49,50,51,52,53,54,55,56,57,97,98,99,100,101,102]))))) (Qn 30)),Qa (Qv 32) (MOp.conv Go.IntKind.i32 (Qn 31)),Qa (Qv 33) (Qd (Qn 7)),Qa (Qv 34) (Qe Qt Go.BinOp.and (Qn 33) (Qo (Qp (Qq (Qr Go.IntKind.i32 15))))),Qa (Qv 35) (MOp.idxS (Qo (Qp (Qq (D.str (ByteArray.mk #[48,49,50,51,52,53,54,55,56,57,97,98,99,100,101,102]))))) (Qn 34)),Qa (Qv 36) (MOp.conv Go.IntKind.i32 (Qn 35)),Qa (Qv 37) (MOp.bslice 1 [(Qr Go.IntKind.i32 0)] 4 [(0,(Qo (Qp (Qq (Qr Go.IntKind.i32 92))))),(1,(Qo (Qp (Qq (Qr Go.IntKind.i32 120))))),(2,(Qn 32)),(3,(Qn 36))]),Qc (Qv 38) (MOp.callv (Qn 28) [(Qn 37)])]
def f66_c24:MC:=.reg true f66_r24
def f66_c27:MC:=.cond (Qn 45) f66_c21 (.seq f66_c22 (.cond (Qn 53) f66_c23 f66_c24))
def f66_c30:MC:=.seq f66_c18 (.cond (Qn 39) f66_c19 (.seq f66_c20 f66_c27))
def f66_c36:MC:=.seq f66_c12 (.seq (.cond (Qn 20) .skip (MC.exit 0)) (.blk 1 (.seq f66_c16 (.seq f66_c17 (.blk 2 f66_c30)))))
def f66_r40:List MO:=[Qa (Qv 60) (Qd (Qn 5)),Qa (Qv 61) (MOp.bslice 1 [(Qr Go.IntKind.i32 0)] 1 [(0,(Qo (Qp (Qq (Qr Go.IntKind.i32 34)))))]),Qa (Qv 62) (MOp.callv (Qn 60) [(Qn 61)])]
def f66_c40:MC:=.r0 f66_r40
def f66_r41:List MO:=[Qa (Qv 63) (Qh 28 [(Qn 4)]),Qa (Qv 2) (Qd (Qn 63)),Qa (Qv 3) (Qd (Qo (Qp (Qq (Qr Qu 0)))))]
def f66_c41:MC:=.r0 f66_r41
def f66_c45:MC:=.seq (.seq f66_c11 (.blk 0 (.loop f66_c36))) (.seq f66_c40 (.seq f66_c41 .ret))
def f66_c48:MC:=.seq f66_c8 (.seq f66_c9 (.seq f66_c10 f66_c45))
def f66_c50:MC:=.seq f66_c0 (.seq (.seq f66_c1 (.cond (Qn 12) (.seq f66_c2 .ret) .skip)) f66_c48)
attribute [go_sem] f66_r0 f66_r1 f66_r2 f66_r8 f66_r9 f66_r10 f66_r11 f66_r12 f66_r16 f66_r17 f66_r18 f66_r19 f66_r20 f66_r21 f66_r22 f66_r23 f66_r24 f66_r40 f66_r41
theorem f66_k : KK QP 66 f66 [] f66_c50 [(RV.t 2),(RV.t 3)] 64 := by refine ⟨func66,?_,?_,?_,?_⟩<;>kernel_rfl
theorem f66_ok : callable QP 66 = true := by kernel_rfl
theorem f66_in (h : GI QP gp [(RV.t 2),(RV.t 3)] res 64 f66_c50 args) : Does QP gp 66 args res := f66_k.i f66_ok h
def f94_r0:List MO:=[Qa (Qv 2) (Qd (Qo (Qp (Qq (D.str (ByteArray.mk #[]))))))]
def f94_c0:MC:=.r0 f94_r0
def f94_r1:List MO:=[Qa (Qv 3) (Qd (Qn 0))]
def f94_c1:MC:=.r0 f94_r1
def f94_r2:List MO:=[Qa (Qv 2) (Qd (Qo (Qp (Qq (D.str (ByteArray.mk #[116,114,117,101]))))))]
def f94_c2:MC:=.r0 f94_r2
def f94_r8:List MO:=[Qa (Qv 2) (Qd (Qo (Qp (Qq (D.str (ByteArray.mk #[102,97,108,115,101]))))))]
def f94_c8:MC:=.r0 f94_r8
def f94_c12:MC:=.seq f94_c0 (.seq (.seq f94_c1 (.cond (Qn 3) (.seq f94_c2 .ret) .skip)) (.seq f94_c8 .ret))
attribute [go_sem] f94_r0 f94_r1 f94_r2 f94_r8
theorem f94_k : KK QP 94 f94 [] f94_c12 [(RV.t 2)] 4 := by refine ⟨func94,?_,?_,?_,?_⟩<;>kernel_rfl
theorem f94_ok : callable QP 94 = true := by kernel_rfl
theorem f94_in (h : GI QP gp [(RV.t 2)] res 4 f94_c12 args) : Does QP gp 94 args res := f94_k.i f94_ok h
def f96_r0:List MO:=[Qa (Qv 5) (Qd (Qn 0)),Qa (Qv 6) (Qk Qt (Qn 5)),Qa (Qv 7) (Qd (Qo (Qp (Qq (Qr Qu 0)))))]
def f96_c0:MC:=.r0 f96_r0
def f96_r1:List MO:=[Qa (Qv 8) (Qe Qt Go.BinOp.lss (Qn 7) (Qn 6))]
def f96_c1:MC:=.r0 f96_r1
def f96_r5:List MO:=[Qa (Qv 9) (Qj 1 (Qn 5) (Qn 7)),Qa (Qv 10) (Qf 1 false (Qn 9)),Qa (Qv 4) (Qd (Qn 10))]
def f96_c5:MC:=.r0 f96_r5
def f96_r6:List MO:=[Qa (Qv 11) (Qd (Qn 4)),Qa (Qv 12) (Qh 97 [(Qn 1),(Qn 11)])]
def f96_c6:MC:=.r0 f96_r6
def f96_r9:List MO:=[Qa (Qv 13) (Qe Qt Go.BinOp.add (Qn 7) (Qo (Qp (Qq (Qr Qu 1))))),Qa (Qv 7) (Qd (Qn 13))]
def f96_c9:MC:=.r0 f96_r9
def f96_c12:MC:=.seq f96_c1 (.seq (.cond (Qn 8) .skip (MC.exit 0)) (.seq (.blk 1 (.seq f96_c5 f96_c6)) f96_c9))
def f96_c15:MC:=.seq f96_c0 (.blk 0 (.loop f96_c12))
attribute [go_sem] f96_r0 f96_r1 f96_r5 f96_r6 f96_r9
theorem f96_k : KK QP 96 f96 [] f96_c15 [] 14 := by refine ⟨func96,?_,?_,?_,?_⟩<;>kernel_rfl
theorem f96_ok : callable QP 96 = true := by kernel_rfl
theorem f96_tri (h : GT QP gp [] pre R 14 f96_c15 args) : Tri QP gp 96 args pre R := f96_k.t h
def f97_r0:List MO:=[Qa (Qv 4) (Qd (Qo (Qp (Qq (Qr Qu 0))))),Qa (Qv 5) (Qd (Qo (Qp (Qq D.nilI))))]
def f97_c0:MC:=.r0 f97_r0
def f97_r1:List MO:=[Qa (Qv 7) (Qd (Qn 0)),Qa (Qv 8) (Qh 58 [(Qn 7)])]
def f97_c1:MC:=.r0 f97_r1
def f97_r2:List MO:=[Qa (Qv 9) (Qd (Qn 0)),Qa (Qv 10) (MOp.nck (Qn 9)),Qa (Qv 11) (Qg 1 (Qn 10)),Qa (Qv 12) (Qf 1 false (Qn 11)),Qa (Qv 13) (Qk Qt (Qn 12)),Qa (Qv 6) (Qd (Qn 13))]
def f97_c2:MC:=.r0 f97_r2
def f97_r3:List MO:=[Qa (Qv 14) (Qd (Qn 0)),Qa (Qv 15) (Qd (Qn 0)),Qa (Qv 16) (MOp.nck (Qn 15)),Qa (Qv 17) (Qg 1 (Qn 16)),Qa (Qv 18) (Qf 1 false (Qn 17)),Qa (Qv 19) (Qd (Qn 1)),Qa (Qv 20) (Qh 136 [(Qn 18),(Qn 19)]),Qa (Qv 21) (MOp.nck (Qn 14)),Qa (Qv 22) (Qg 1 (Qn 21)),Qa none (Ql 1 (Qn 22) (Qn 20))]
def f97_c3:MC:=.r0 f97_r3
def f97_r4:List MO:=[Qa (Qv 23) (Qd (Qn 0)),Qa (Qv 24) (MOp.nck (Qn 23)),Qa (Qv 25) (Qg 1 (Qn 24)),Qa (Qv 26) (Qf 1 false (Qn 25)),Qa (Qv 27) (Qk Qt (Qn 26)),Qa (Qv 28) (Qd (Qn 6)),Qa (Qv 29) (Qe Qt Go.BinOp.sub (Qn 27) (Qn 28)),Qa (Qv 4) (Qd (Qn 29)),Qa (Qv 5) (Qd (Qo (Qp (Qq D.nilI))))]
def f97_c4:MC:=.r0 f97_r4
def f97_c9:MC:=.seq f97_c1 (.seq f97_c2 (.seq f97_c3 (.seq f97_c4 .ret)))
def f97_c10:MC:=.seq f97_c0 f97_c9
attribute [go_sem] f97_r0 f97_r1 f97_r2 f97_r3 f97_r4
theorem f97_k : KK QP 97 f97 [] f97_c10 [(RV.t 4),(RV.t 5)] 30 := by refine ⟨func97,?_,?_,?_,?_⟩<;>kernel_rfl
theorem f97_ok : callable QP 97 = true := by kernel_rfl
theorem f97_tri (h : GT QP gp [(RV.t 4),(RV.t 5)] pre R 30 f97_c10 args) : Tri QP gp 97 args pre R := f97_k.t h
def f98_r0:List MO:=[Qa (Qv 0) (Qd (Qo (Qp (Qq (D.raw (Go.Value.map none))))))]
def f98_c0:MC:=.r0 f98_r0
def f98_r1:List MO:=[Qa (Qv 1) MOp.mkM,Qa none (MOp.mupd false [Qt] (Qn 1) (Qo (Qp (Qq (Qr Go.IntKind.i32 10)))) (Qo (Qp (Qq (Qr Go.IntKind.i32 110))))),Qa none (MOp.mupd false [Qt] (Qn 1) (Qo (Qp (Qq (Qr Go.IntKind.i32 9)))) (Qo (Qp (Qq (Qr Go.IntKind.i32 116))))),Qa none (MOp.mupd false [Qt] (Qn 1) (Qo (Qp (Qq (Qr Go.IntKind.i32 13)))) (Qo (Qp (Qq (Qr Go.IntKind.i32 114))))),Qa (Qv 2) (Qd (Qn 1)),Qa (Qv 0) (Qd (Qn 2))]
def f98_c1:MC:=.r0 f98_r1
def f98_c4:MC:=.seq f98_c0 (.seq f98_c1 .ret)
attribute [go_sem] f98_r0 f98_r1
theorem f98_k : KK QP 98 f98 [] f98_c4 [(RV.t 0)] 3 := by refine ⟨func98,?_,?_,?_,?_⟩<;>kernel_rfl
theorem f98_ok : callable QP 98 = true := by kernel_rfl
theorem f98_tri (h : GT QP gp [(RV.t 0)] pre R 3 f98_c4 args) : Tri QP gp 98 args pre R := f98_k.t h
def f99_r0:List MO:=[Qa (Qv 4) (Qd (Qo (Qp (Qq (Qs false)))))]
def f99_c0:MC:=.r0 f99_r0
def f99_r1:List MO:=[Qa (Qv 7) (Qd (Qn 1)),Qa (Qv 8) (Qk Qt (Qn 7)),Qa (Qv 9) (Qd (Qo (Qp (Qq (Qr Qu 0)))))]
def f99_c1:MC:=.r0 f99_r1
def f99_r2:List MO:=[Qa (Qv 10) (Qe Qt Go.BinOp.lss (Qn 9) (Qn 8))]
def f99_c2:MC:=.r0 f99_r2
def f99_r6:List MO:=[Qa (Qv 11) (Qj 1 (Qn 7) (Qn 9)),Qa (Qv 12) (Qf 1 false (Qn 11)),Qa (Qv 6) (Qd (Qn 12))]
def f99_c6:MC:=.r0 f99_r6
def f99_r7:List MO:=[Qa (Qv 13) (Qd (Qn 0)),Qa (Qv 14) (Qd (Qn 6)),Qa (Qv 15) (Qe Qt Go.BinOp.eql (Qn 13) (Qn 14))]
def f99_c7:MC:=.r0 f99_r7
def f99_r8:List MO:=[Qa (Qv 4) (Qd (Qo (Qp (Qq (Qs true)))))]
def f99_c8:MC:=.r0 f99_r8
def f99_r16:List MO:=[Qa (Qv 16) (Qe Qt Go.BinOp.add (Qn 9) (Qo (Qp (Qq (Qr Qu 1))))),Qa (Qv 9) (Qd (Qn 16))]
def f99_c16:MC:=.r0 f99_r16
def f99_c17:MC:=.seq (.blk 1 (.seq f99_c6 (.seq f99_c7 (.cond (Qn 15) (.seq f99_c8 .ret) .skip)))) f99_c16
def f99_r23:List MO:=[Qa (Qv 4) (Qd (Qo (Qp (Qq (Qs false)))))]
def f99_c23:MC:=.r0 f99_r23
def f99_c26:MC:=.seq (.seq f99_c1 (.blk 0 (.loop (.seq f99_c2 (.seq (.cond (Qn 10) .skip (MC.exit 0)) f99_c17))))) (.seq f99_c23 .ret)
def f99_c27:MC:=.seq f99_c0 f99_c26
attribute [go_sem] f99_r0 f99_r1 f99_r2 f99_r6 f99_r7 f99_r8 f99_r16 f99_r23
theorem f99_k : KK QP 99 f99 [] f99_c27 [(RV.t 4)] 17 := by refine ⟨func99,?_,?_,?_,?_⟩<;>kernel_rfl
theorem f99_ok : callable QP 99 = true := by kernel_rfl
theorem f99_in (h : GI QP gp [(RV.t 4)] res 17 f99_c27 args) : Does QP gp 99 args res := f99_k.i f99_ok h
def f100_r0:List MO:=[Qa (Qv 2) (Qd (Qo (Qp (Qq (Qs false)))))]
def f100_c0:MC:=.r0 f100_r0
def f100_r1:List MO:=[Qa (Qv 3) (Qd (Qn 0)),Qa (Qv 4) (Qe Qt Go.BinOp.geq (Qn 3) (Qo (Qp (Qq (Qr Go.IntKind.i32 32))))),Qa (Qv 5) (Qd (Qn 4)),Qb 5 true (Qv 6),Qa (Qv 6) (Qd (Qn 0)),Qb 5 true (Qv 7),Qa (Qv 7) (Qe Qt Go.BinOp.neq (Qn 6) (Qo (Qp (Qq (Qr Go.IntKind.i32 127))))),Qa (Qv 8) (Qm (Qn 5) (Qn 7) (Qo (Qp (Qq (Qs false))))),Qa (Qv 2) (Qd (Qn 8))]
def f100_c1:MC:=.r0 f100_r1
def f100_c4:MC:=.seq f100_c0 (.seq f100_c1 .ret)
attribute [go_sem] f100_r0 f100_r1
theorem f100_k : KK QP 100 f100 [] f100_c4 [(RV.t 2)] 9 := by refine ⟨func100,?_,?_,?_,?_⟩<;>kernel_rfl
theorem f100_ok : callable QP 100 = true := by kernel_rfl
theorem f100_in (h : GI QP gp [(RV.t 2)] res 9 f100_c4 args) : Does QP gp 100 args res := f100_k.i f100_ok h
def f136_r0:List MO:=[Qa (Qv 4) (Qd (Qo (Qp A.nil)))]
def f136_c0:MC:=.r0 f136_r0
def f136_r1:List MO:=[Qa (Qv 5) (Qd (Qn 1)),Qa (Qv 6) (MOp.conv Go.IntKind.u32 (Qn 5)),Qa (Qv 7) (Qe Qt Go.BinOp.leq (Qn 6) (Qo (Qp (Qq (Qr Go.IntKind.u32 127)))))]
def f136_c1:MC:=.r0 f136_r1
def f136_r2:List MO:=[Qa (Qv 8) (Qd (Qn 0)),Qa (Qv 9) (Qd (Qn 1)),Qa (Qv 10) (MOp.conv Go.IntKind.u8 (Qn 9)),Qa (Qv 11) (MOp.bslice 1 [(Qr Go.IntKind.u8 0)] 1 [(0,(Qn 10))]),Qa (Qv 12) (MOp.app 5 1 1 (Qn 8) (Qn 11)),Qa (Qv 4) (Qd (Qn 12))]
def f136_c2:MC:=.r0 f136_r2
def f136_r8:List MO:=[Qa (Qv 13) (Qd (Qn 0)),Qa (Qv 14) (Qd (Qn 1)),Qa (Qv 15) (Qh 164 [(Qn 13),(Qn 14)]),Qa (Qv 4) (Qd (Qn 15))]
def f136_c8:MC:=.r0 f136_r8
def f136_c12:MC:=.seq f136_c0 (.seq (.seq f136_c1 (.cond (Qn 7) (.seq f136_c2 .ret) .skip)) (.seq f136_c8 .ret))
attribute [go_sem] f136_r0 f136_r1 f136_r2 f136_r8
theorem f136_k : KK QP 136 f136 [] f136_c12 [(RV.t 4)] 16 := by refine ⟨func136,?_,?_,?_,?_⟩<;>kernel_rfl
theorem f136_ok : callable QP 136 = true := by kernel_rfl
theorem f136_tri (h : GT QP gp [(RV.t 4)] pre R 16 f136_c12 args) : Tri QP gp 136 args pre R := f136_k.t h
def f164_r0:List MO:=[Qa (Qv 4) (Qd (Qo (Qp A.nil)))]
def f164_c0:MC:=.r0 f164_r0
def f164_r1:List MO:=[Qa (Qv 6) (Qd (Qn 1)),Qa (Qv 7) (MOp.conv Go.IntKind.u32 (Qn 6)),Qa (Qv 5) (Qd (Qn 7))]
def f164_c1:MC:=.r0 f164_r1
def f164_r2:List MO:=[Qa (Qv 12) (Qd (Qn 5)),Qa (Qv 13) (Qe Qt Go.BinOp.leq (Qn 12) (Qo (Qp (Qq (Qr Go.IntKind.u32 2047))))),Qa (Qv 11) (Qd (Qn 13))]
def f164_c2:MC:=.r0 f164_r2
def f164_r3:List MO:=[Qa (Qv 14) (Qd (Qn 0)),Qa (Qv 15) (Qd (Qn 1)),Qa (Qv 16) (Qe Qt Go.BinOp.shr (Qn 15) (Qo (Qp (Qq (Qr Go.IntKind.u64 6))))),Qa (Qv 17) (MOp.conv Go.IntKind.u8 (Qn 16)),Qa (Qv 18) (Qe Qt Go.BinOp.or (Qo (Qp (Qq (Qr Go.IntKind.u8 192)))) (Qn 17)),Qa (Qv 19) (Qd (Qn 1)),Qa (Qv 20) (MOp.conv Go.IntKind.u8 (Qn 19)),Qa (Qv 21) (Qe Qt Go.BinOp.and (Qn 20) (Qo (Qp (Qq (Qr Go.IntKind.u8 63))))),Qa (Qv 22) (Qe Qt Go.BinOp.or (Qo (Qp (Qq (Qr Go.IntKind.u8 128)))) (Qn 21)),Qa (Qv 23) (MOp.bslice 1 [(Qr Go.IntKind.u8 0)] 2 [(0,(Qn 18)),(1,(Qn 22))]),Qa (Qv 24) (MOp.app 5 1 1 (Qn 14) (Qn 23)),Qa (Qv 4) (Qd (Qn 24))]
def f164_c3:MC:=.r0 f164_r3
def f164_r6:List MO:=[Qa (Qv 26) (Qd (Qn 5)),Qa (Qv 27) (Qe Qt Go.BinOp.lss (Qn 26) (Qo (Qp (Qq (Qr Go.IntKind.u32 55296))))),Qa (Qv 25) (Qd (Qn 27))]
def f164_c6:MC:=.r0 f164_r6
def f164_r8:List MO:=[Qa (Qv 28) (Qd (Qn 5)),Qa (Qv 29) (Qe Qt Go.BinOp.lss (Qo (Qp (Qq (Qr Go.IntKind.u32 57343)))) (Qn 28)),Qa (Qv 30) (Qd (Qn 29)),Qb 30 true (Qv 31),Qa (Qv 31) (Qd (Qn 5)),Qb 30 true (Qv 32),Qa (Qv 32) (Qe Qt Go.BinOp.leq (Qn 31) (Qo (Qp (Qq (Qr Go.IntKind.u32 65535))))),Qa (Qv 33) (Qm (Qn 30) (Qn 32) (Qo (Qp (Qq (Qs false))))),Qa (Qv 25) (Qd (Qn 33))]
def f164_c8:MC:=.r0 f164_r8
def f164_r11:List MO:=[Qa (Qv 34) (Qd (Qn 0)),Qa (Qv 35) (Qd (Qn 1)),Qa (Qv 36) (Qe Qt Go.BinOp.shr (Qn 35) (Qo (Qp (Qq (Qr Go.IntKind.u64 12))))),Qa (Qv 37) (MOp.conv Go.IntKind.u8 (Qn 36)),Qa (Qv 38) (Qe Qt Go.BinOp.or (Qo (Qp (Qq (Qr Go.IntKind.u8 224)))) (Qn 37)),Qa (Qv 39) (Qd (Qn 1)),Qa (Qv 40) (Qe Qt Go.BinOp.shr (Qn 39) (Qo (Qp (Qq (Qr Go.IntKind.u64 6))))),Qa (Qv 41) (MOp.conv Go.IntKind.u8 (Qn 40)),Qa (Qv 42) (Qe Qt Go.BinOp.and (Qn 41) (Qo (Qp (Qq (Qr Go.IntKind.u8 63))))),Qa (Qv 43) (Qe Qt Go.BinOp.or (Qo (Qp (Qq (Qr Go.IntKind.u8 128)))) (Qn 42)),Qa (Qv 44) (Qd (Qn 1)),Qa (Qv 45) (MOp.conv Go.IntKind.u8 (Qn 44)),Qa (Qv 46) (Qe Qt Go.BinOp.and (Qn 45) (Qo (Qp (Qq (Qr Go.IntKind.u8 63))))),Qa (Qv 47) (Qe Qt Go.BinOp.or (Qo (Qp (Qq (Qr Go.IntKind.u8 128)))) (Qn 46)),Qa (Qv 48) (MOp.bslice 1 [(Qr Go.IntKind.u8 0)] 3 [(0,(Qn 38)),(1,(Qn 43)),(2,(Qn 47))]),Qa (Qv 49) (MOp.app 5 1 1 (Qn 34) (Qn 48)),Qa (Qv 4) (Qd (Qn 49))]
def f164_c11:MC:=.r0 f164_r11
def f164_r14:List MO:=[Qa (Qv 51) (Qd (Qn 5)),Qa (Qv 52) (Qe Qt Go.BinOp.gtr (Qn 51) (Qo (Qp (Qq (Qr Go.IntKind.u32 65535))))),Qa (Qv 53) (Qd (Qn 52)),Qb 53 true (Qv 54),Qa (Qv 54) (Qd (Qn 5)),Qb 53 true (Qv 55),Qa (Qv 55) (Qe Qt Go.BinOp.leq (Qn 54) (Qo (Qp (Qq (Qr Go.IntKind.u32 1114111))))),Qa (Qv 56) (Qm (Qn 53) (Qn 55) (Qo (Qp (Qq (Qs false))))),Qa (Qv 50) (Qd (Qn 56))]
def f164_c14:MC:=.r0 f164_r14
def f164_r15:List MO:=[Qa (Qv 57) (Qd (Qn 0)),Qa (Qv 58) (Qd (Qn 1)),Qa (Qv 59) (Qe Qt Go.BinOp.shr (Qn 58) (Qo (Qp (Qq (Qr Go.IntKind.u64 18))))),Qa (Qv 60) (MOp.conv Go.IntKind.u8 (Qn 59)),Qa (Qv 61) (Qe Qt Go.BinOp.or (Qo (Qp (Qq (Qr Go.IntKind.u8 240)))) (Qn 60)),Qa (Qv 62) (Qd (Qn 1)),Qa (Qv 63) (Qe Qt Go.BinOp.shr (Qn 62) (Qo (Qp (Qq (Qr Go.IntKind.u64 12))))),Qa (Qv 64) (MOp.conv Go.IntKind.u8 (Qn 63)),Qa (Qv 65) (Qe Qt Go.BinOp.and (Qn 64) (Qo (Qp (Qq (Qr Go.IntKind.u8 63))))),Qa (Qv 66) (Qe Qt Go.BinOp.or (Qo (Qp (Qq (Qr Go.IntKind.u8 128)))) (Qn 65)),Qa (Qv 67) (Qd (Qn 1)),Qa (Qv 68) (Qe Qt Go.BinOp.shr (Qn 67) (Qo (Qp (Qq (Qr Go.IntKind.u64 6))))),Qa (Qv 69) (MOp.conv Go.IntKind.u8 (Qn 68)),Qa (Qv 70) (Qe Qt Go.BinOp.and (Qn 69) (Qo (Qp (Qq (Qr Go.IntKind.u8 63))))),Qa (Qv 71) (Qe Qt Go.BinOp.or (Qo (Qp (Qq (Qr Go.IntKind.u8 128)))) (Qn 70)),Qa (Qv 72) (Qd (Qn 1)),Qa (Qv 73) (MOp.conv Go.IntKind.u8 (Qn 72)),Qa (Qv 74) (Qe Qt Go.BinOp.and (Qn 73) (Qo (Qp (Qq (Qr Go.IntKind.u8 63))))),Qa (Qv 75) (Qe Qt Go.BinOp.or (Qo (Qp (Qq (Qr Go.IntKind.u8 128)))) (Qn 74)),Qa (Qv 76) (MOp.bslice 1 [(Qr Go.IntKind.u8 0)] 4 [(0,(Qn 61)),(1,(Qn 66)),(2,(Qn 71)),(3,(Qn 75))]),Qa (Qv 77) (MOp.app 5 1 1 (Qn 57) (Qn 76)),Qa (Qv 4) (Qd (Qn 77))]
def f164_c15:MC:=.r0 f164_r15
def f164_r18:List MO:=[Qa (Qv 8) (Qd (Qn 0)),Qa (Qv 9) (MOp.bslice 1 [(Qr Go.IntKind.u8 0)] 3 [(0,(Qo (Qp (Qq (Qr Go.IntKind.u8 239))))),(1,(Qo (Qp (Qq (Qr Go.IntKind.u8 191))))),(2,(Qo (Qp (Qq (Qr Go.IntKind.u8 189)))))]),Qa (Qv 10) (MOp.app 5 1 1 (Qn 8) (Qn 9)),Qa (Qv 4) (Qd (Qn 10))]
def f164_c18:MC:=.r0 f164_r18
def f164_c23:MC:=.cond (Qn 25) (.seq f164_c11 .ret) (.seq f164_c14 (.cond (Qn 50) (.seq f164_c15 .ret) (.seq f164_c18 .ret)))
def f164_c25:MC:=.cond (Qn 11) (.seq f164_c3 .ret) (.seq (.seq f164_c6 (.cond (Qn 25) .skip f164_c8)) f164_c23)
def f164_c29:MC:=.seq f164_c0 (.seq f164_c1 (.blk 0 (.seq f164_c2 f164_c25)))
attribute [go_sem] f164_r0 f164_r1 f164_r2 f164_r3 f164_r6 f164_r8 f164_r11 f164_r14 f164_r15 f164_r18
theorem f164_k : KK QP 164 f164 [] f164_c29 [(RV.t 4)] 78 := by refine ⟨func164,?_,?_,?_,?_⟩<;>kernel_rfl
theorem f164_ok : callable QP 164 = true := by kernel_rfl
theorem f164_tri (h : GT QP gp [(RV.t 4)] pre R 78 f164_c29 args) : Tri QP gp 164 args pre R := f164_k.t h
end Go.Fw.L07
