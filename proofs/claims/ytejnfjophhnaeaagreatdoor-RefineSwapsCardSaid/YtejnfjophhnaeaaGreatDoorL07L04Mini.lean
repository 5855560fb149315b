/- Small codes. -/
import Derived.Test.YtejnfjophhnaeaaGreatDoorFd
import Derived.Test.YtejnfjophhnaeaaGreatDoorProg
set_option linter.all false
namespace Go.Fw.L07
open Go Go.Fw
open Go.Proofs.Tryz renaming prog -> QP
open Go.Proofs.Tryz (f100 f101 f128 f129 f130 f131 f148 f149 f162 f163 f164 f165 f166 f167 f180 f187 func100 func101 func128 func129 func130 func131 func148 func149 func162 func163 func164 func165 func166 func167 func180 func187)
open Go.Fw.MO renaming op -> Qa,chk -> Qb,opx -> Qc
open Go.Fw.MOp renaming mv -> Qd,bin -> Qe,load -> Qf,fad -> Qg,call -> Qh,ext -> Qi,iad -> Qj,len -> Qk,store -> Ql,pick -> Qm
open Go.Fw.Opd renaming t -> Qn,c -> Qo
open Go.Fw.V renaming one -> Qp
open Go.Fw.A renaming d -> Qq
open Go.Fw.D renaming int -> Qr,bool -> Qs
open Go.Fw.Leaf renaming i -> Qt
open Go.IntKind renaming i64 -> Qu
open Option renaming some -> Qv
variable {gp : Heap} {args : List V} {res : V} {pre : List Ch} {R : V -> List Ch -> Prop}
def f100_r0:List MO:=[Qa (Qv 1) (MOp.ibox (Qn 0)),Qa (Qv 2) (Qd (Qo (Qp (Qq (D.str (ByteArray.mk #[])))))),Qa (Qv 3) (Qd (Qo (Qp (Qq (Qr Qu 0)))))]
def f100_c0:MC:=.r0 f100_r0
def f100_r1:List MO:=[Qa (Qv 6) (Qf 3 true (Qn 1)),Qa (Qv 7) (Qh 127 [(Qn 6)]),Qa (Qv 8) (MOp.not (Qn 7))]
def f100_c1:MC:=.r0 f100_r1
def f100_r2:List MO:=[Qa (Qv 2) (Qd (Qo (Qp (Qq (D.str (ByteArray.mk #[])))))),Qa (Qv 3) (Qd (Qo (Qp (Qq (Qr Qu 60)))))]
def f100_c2:MC:=.r0 f100_r2
def f100_r8:List MO:=[Qa (Qv 9) (Qf 3 true (Qn 1)),Qa (Qv 10) (MOp.build [(Qr Qu 0),(Qr Qu 0),(D.str (ByteArray.mk #[]))] [(0,(3,(Qn 9)))]),Qa (Qv 4) (MOp.alloc [(Qr Qu 0),(Qr Qu 0),(D.str (ByteArray.mk #[]))]),Qa none (Ql 3 (Qn 4) (Qn 10))]
def f100_c8:MC:=.r0 f100_r8
def f100_r9:List MO:=[Qa (Qv 11) (Qf 3 true (Qn 4)),Qa (Qv 12) (MOp.mkMv (Go.Fn.func 128) (Qn 11)),Qa (Qv 13) (Qf 3 true (Qn 4)),Qa (Qv 14) (MOp.mkMv (Go.Fn.func 129) (Qn 13)),Qa (Qv 15) (Qf 3 true (Qn 4)),Qa (Qv 16) (MOp.mkMv (Go.Fn.func 130) (Qn 15)),Qa (Qv 17) (Qf 3 true (Qn 4)),Qa (Qv 18) (MOp.mkMv (Go.Fn.func 131) (Qn 17)),Qa (Qv 19) (MOp.build [D.nilF,D.nilF,D.nilF,D.nilF] [(0,(1,(Qn 12))),(1,(1,(Qn 14))),(2,(1,(Qn 16))),(3,(1,(Qn 18)))]),Qa (Qv 5) (MOp.alloc [D.nilF,D.nilF,D.nilF,D.nilF]),Qa none (Ql 4 (Qn 5) (Qn 19))]
def f100_c9:MC:=.r0 f100_r9
def f100_r10:List MO:=[Qa (Qv 20) (Qg 0 (Qn 1)),Qa (Qv 21) (Qf 1 false (Qn 20)),Qa (Qv 22) (MOp.iadA 4 1 (Qn 5) (Qn 21)),Qa (Qv 23) (Qf 1 false (Qn 22)),Qa (Qv 24) (MOp.callv (Qn 23) []),Qa (Qv 2) (Qd (Qn 24)),Qa (Qv 3) (Qd (Qo (Qp (Qq (Qr Qu 0)))))]
def f100_c10:MC:=.r0 f100_r10
def f100_c15:MC:=.seq (.seq f100_c1 (.cond (Qn 8) (.seq f100_c2 .ret) .skip)) (.seq f100_c8 (.seq f100_c9 (.seq f100_c10 .ret)))
def f100_c16:MC:=.seq f100_c0 f100_c15
attribute [go_sem] f100_r0 f100_r1 f100_r2 f100_r8 f100_r9 f100_r10
theorem f100_k : KK QP 100 f100 [1] f100_c16 [(RV.t 2),(RV.t 3)] 25 := by refine ⟨func100,?_,?_,?_,?_⟩<;>kernel_rfl
theorem f100_ok : callable QP 100 = true := by kernel_rfl
theorem f100_in (h : GI QP gp [(RV.t 2),(RV.t 3)] res 25 f100_c16 args) : Does QP gp 100 args res := f100_k.i f100_ok h
def f101_r0:List MO:=[Qa (Qv 4) (Qd (Qo (Qp (Qq (Qr Qu 0))))),Qa (Qv 5) (Qd (Qo (Qp (Qq D.nilI))))]
def f101_c0:MC:=.r0 f101_r0
def f101_r1:List MO:=[Qa (Qv 6) (Qd (Qn 0)),Qa (Qv 7) (Qh 132 [(Qn 6)])]
def f101_c1:MC:=.r0 f101_r1
def f101_r2:List MO:=[Qa (Qv 8) (Qd (Qn 0)),Qa (Qv 9) (Qd (Qn 0)),Qa (Qv 10) (MOp.nck (Qn 9)),Qa (Qv 11) (Qg 1 (Qn 10)),Qa (Qv 12) (Qf 1 false (Qn 11)),Qa (Qv 13) (Qd (Qn 1)),Qa (Qv 14) (MOp.appS 5 (Qn 12) (Qn 13)),Qa (Qv 15) (MOp.nck (Qn 8)),Qa (Qv 16) (Qg 1 (Qn 15)),Qa none (Ql 1 (Qn 16) (Qn 14))]
def f101_c2:MC:=.r0 f101_r2
def f101_r3:List MO:=[Qa (Qv 17) (Qd (Qn 1)),Qa (Qv 18) (Qk Leaf.s (Qn 17)),Qa (Qv 4) (Qd (Qn 18)),Qa (Qv 5) (Qd (Qo (Qp (Qq D.nilI))))]
def f101_c3:MC:=.r0 f101_r3
def f101_c8:MC:=.seq f101_c0 (.seq f101_c1 (.seq f101_c2 (.seq f101_c3 .ret)))
attribute [go_sem] f101_r0 f101_r1 f101_r2 f101_r3
theorem f101_k : KK QP 101 f101 [] f101_c8 [(RV.t 4),(RV.t 5)] 19 := by refine ⟨func101,?_,?_,?_,?_⟩<;>kernel_rfl
theorem f101_ok : callable QP 101 = true := by kernel_rfl
theorem f101_tri (h : GT QP gp [(RV.t 4),(RV.t 5)] pre R 19 f101_c8 args) : Tri QP gp 101 args pre R := f101_k.t h
-- f102: trC none
def f128_r0:List MO:=[Qa (Qv 1) (MOp.ibox (Qn 0)),Qa (Qv 2) (Qd (Qo (Qp (Qq (D.str (ByteArray.mk #[]))))))]
def f128_c0:MC:=.r0 f128_r0
def f128_r1:List MO:=[Qa (Qv 2) (Qd (Qo (Qp (Qq (D.str (ByteArray.mk #[110,117,108,108]))))))]
def f128_c1:MC:=.r0 f128_r1
def f128_c4:MC:=.seq f128_c0 (.seq f128_c1 .ret)
attribute [go_sem] f128_r0 f128_r1
theorem f128_k : KK QP 128 f128 [1] f128_c4 [(RV.t 2)] 3 := by refine ⟨func128,?_,?_,?_,?_⟩<;>kernel_rfl
theorem f128_ok : callable QP 128 = true := by kernel_rfl
theorem f128_in (h : GI QP gp [(RV.t 2)] res 3 f128_c4 args) : Does QP gp 128 args res := f128_k.i f128_ok h
def f129_r0:List MO:=[Qa (Qv 1) (MOp.ibox (Qn 0)),Qa (Qv 2) (Qd (Qo (Qp (Qq (D.str (ByteArray.mk #[]))))))]
def f129_c0:MC:=.r0 f129_r0
def f129_r1:List MO:=[Qa (Qv 3) (Qg 0 (Qn 1)),Qa (Qv 4) (Qg 1 (Qn 3)),Qa (Qv 5) (Qf 1 false (Qn 4)),Qa (Qv 6) (Qe Qt Go.BinOp.eql (Qn 5) (Qo (Qp (Qq (Qr Qu 1))))),Qa (Qv 7) (Qh 148 [(Qn 6)]),Qa (Qv 2) (Qd (Qn 7))]
def f129_c1:MC:=.r0 f129_r1
def f129_c4:MC:=.seq f129_c0 (.seq f129_c1 .ret)
attribute [go_sem] f129_r0 f129_r1
theorem f129_k : KK QP 129 f129 [1] f129_c4 [(RV.t 2)] 8 := by refine ⟨func129,?_,?_,?_,?_⟩<;>kernel_rfl
theorem f129_ok : callable QP 129 = true := by kernel_rfl
theorem f129_in (h : GI QP gp [(RV.t 2)] res 8 f129_c4 args) : Does QP gp 129 args res := f129_k.i f129_ok h
def f130_r0:List MO:=[Qa (Qv 1) (MOp.ibox (Qn 0)),Qa (Qv 2) (Qd (Qo (Qp (Qq (D.str (ByteArray.mk #[]))))))]
def f130_c0:MC:=.r0 f130_r0
def f130_r1:List MO:=[Qa (Qv 3) (Qg 0 (Qn 1)),Qa (Qv 4) (Qg 1 (Qn 3)),Qa (Qv 5) (Qf 1 false (Qn 4)),Qa (Qv 6) (Qh 103 [(Qn 5)]),Qa (Qv 2) (Qd (Qn 6))]
def f130_c1:MC:=.r0 f130_r1
def f130_c4:MC:=.seq f130_c0 (.seq f130_c1 .ret)
attribute [go_sem] f130_r0 f130_r1
theorem f130_k : KK QP 130 f130 [1] f130_c4 [(RV.t 2)] 7 := by refine ⟨func130,?_,?_,?_,?_⟩<;>kernel_rfl
theorem f130_ok : callable QP 130 = true := by kernel_rfl
theorem f130_in (h : GI QP gp [(RV.t 2)] res 7 f130_c4 args) : Does QP gp 130 args res := f130_k.i f130_ok h
def f131_r0:List MO:=[Qa (Qv 1) (MOp.ibox (Qn 0)),Qa (Qv 2) (Qd (Qo (Qp (Qq (D.str (ByteArray.mk #[]))))))]
def f131_c0:MC:=.r0 f131_r0
def f131_r1:List MO:=[Qa (Qv 6) (Qg 0 (Qn 1)),Qa (Qv 7) (Qg 2 (Qn 6)),Qa (Qv 8) (Qf 1 false (Qn 7)),Qa (Qv 9) (Qh 149 [(Qn 8)]),Qa (Qv 5) (Qd (Qn 9)),Qa (Qv 10) (Qi (Qn 5) 0),Qa (Qv 11) (Qi (Qn 5) 1),Qa (Qv 3) (Qd (Qn 10)),Qa (Qv 4) (Qd (Qn 11))]
def f131_c1:MC:=.r0 f131_r1
def f131_r2:List MO:=[Qa (Qv 12) (Qd (Qn 3)),Qa (Qv 2) (Qd (Qn 12))]
def f131_c2:MC:=.r0 f131_r2
def f131_c6:MC:=.seq f131_c0 (.seq f131_c1 (.seq f131_c2 .ret))
attribute [go_sem] f131_r0 f131_r1 f131_r2
theorem f131_k : KK QP 131 f131 [1] f131_c6 [(RV.t 2)] 13 := by refine ⟨func131,?_,?_,?_,?_⟩<;>kernel_rfl
theorem f131_ok : callable QP 131 = true := by kernel_rfl
theorem f131_in (h : GI QP gp [(RV.t 2)] res 13 f131_c6 args) : Does QP gp 131 args res := f131_k.i f131_ok h
def f148_r0:List MO:=[Qa (Qv 2) (Qd (Qo (Qp (Qq (D.str (ByteArray.mk #[]))))))]
def f148_c0:MC:=.r0 f148_r0
def f148_r1:List MO:=[Qa (Qv 3) (Qd (Qn 0)),Qa (Qv 4) (Qh 162 [(Qn 3)]),Qa (Qv 2) (Qd (Qn 4))]
def f148_c1:MC:=.r0 f148_r1
def f148_c4:MC:=.seq f148_c0 (.seq f148_c1 .ret)
attribute [go_sem] f148_r0 f148_r1
theorem f148_k : KK QP 148 f148 [] f148_c4 [(RV.t 2)] 5 := by refine ⟨func148,?_,?_,?_,?_⟩<;>kernel_rfl
theorem f148_ok : callable QP 148 = true := by kernel_rfl
theorem f148_in (h : GI QP gp [(RV.t 2)] res 5 f148_c4 args) : Does QP gp 148 args res := f148_k.i f148_ok h
def f149_r0:List MO:=[Qa (Qv 2) (Qd (Qo (Qp (Qq (D.str (ByteArray.mk #[])))))),Qa (Qv 3) (Qd (Qo (Qp (Qq (Qr Qu 0)))))]
def f149_c0:MC:=.r0 f149_r0
def f149_r1:List MO:=[Qa (Qv 10) (Qd (Qn 0)),Qa (Qv 11) (Qh 147 [(Qn 10)]),Qa (Qv 12) (MOp.not (Qn 11))]
def f149_c1:MC:=.r0 f149_r1
def f149_r2:List MO:=[Qa (Qv 2) (Qd (Qo (Qp (Qq (D.str (ByteArray.mk #[])))))),Qa (Qv 3) (Qd (Qo (Qp (Qq (Qr Qu 40)))))]
def f149_c2:MC:=.r0 f149_r2
def f149_r8:List MO:=[Qa (Qv 4) (MOp.bldN 169 5)]
def f149_c8:MC:=.r0 f149_r8
def f149_r9:List MO:=[Qa (Qv 13) (MOp.mkF (Go.Fn.func 163) [(Qn 4)]),Qa (Qv 5) (Qd (Qn 13))]
def f149_c9:MC:=.r0 f149_r9
def f149_r10:List MO:=[Qa (Qv 14) (Qd (Qn 5)),Qa (Qv 15) (MOp.bslice 1 [(Qr Go.IntKind.i32 0)] 1 [(0,(Qo (Qp (Qq (Qr Go.IntKind.i32 34)))))]),Qa (Qv 16) (MOp.callv (Qn 14) [(Qn 15)])]
def f149_c10:MC:=.r0 f149_r10
def f149_r11:List MO:=[Qa (Qv 17) (Qd (Qn 0)),Qa (Qv 18) (MOp.rng (Qn 17))]
def f149_c11:MC:=.r0 f149_r11
def f149_r12:List MO:=[Qa (Qv 19) (MOp.nxt (Qn 18)),Qa (Qv 20) (Qi (Qn 19) 0)]
def f149_c12:MC:=.r0 f149_r12
def f149_r16:List MO:=[Qa (Qv 21) (Qi (Qn 19) 2),Qa (Qv 7) (Qd (Qn 21))]
def f149_c16:MC:=.r0 f149_r16
def f149_r17:List MO:=[Qa (Qv 23) (Qh 165 []),Qa (Qv 24) (Qd (Qn 7)),Qa (Qv 25) (MOp.lkp true (Qp (Qq (Qr Go.IntKind.i32 0))) false [Qt] (Qn 23) (Qn 24)),Qa (Qv 22) (Qd (Qn 25)),Qa (Qv 26) (Qi (Qn 22) 0),Qa (Qv 27) (Qi (Qn 22) 1),Qa (Qv 8) (Qd (Qn 26)),Qa (Qv 9) (Qd (Qn 27))]
def f149_c17:MC:=.r0 f149_r17
def f149_r18:List MO:=[Qa (Qv 40) (Qd (Qn 9)),Qa (Qv 39) (Qd (Qn 40))]
def f149_c18:MC:=.r0 f149_r18
def f149_r19:List MO:=[Qa (Qv 41) (Qd (Qn 5)),Qa (Qv 42) (Qd (Qn 8)),Qa (Qv 43) (MOp.bslice 1 [(Qr Go.IntKind.i32 0)] 2 [(0,(Qo (Qp (Qq (Qr Go.IntKind.i32 92))))),(1,(Qn 42))]),Qa (Qv 44) (MOp.callv (Qn 41) [(Qn 43)])]
def f149_c19:MC:=.r0 f149_r19
def f149_r20:List MO:=[Qa (Qv 46) (Qd (Qn 7)),Qa (Qv 47) (MOp.bslice 1 [(Qr Go.IntKind.i32 0)] 2 [(0,(Qo (Qp (Qq (Qr Go.IntKind.i32 34))))),(1,(Qo (Qp (Qq (Qr Go.IntKind.i32 92)))))]),Qa (Qv 48) (Qh 166 [(Qn 46),(Qn 47)]),Qa (Qv 45) (Qd (Qn 48))]
def f149_c20:MC:=.r0 f149_r20
def f149_r21:List MO:=[Qa (Qv 49) (Qd (Qn 5)),Qa (Qv 50) (Qd (Qn 7)),Qa (Qv 51) (MOp.bslice 1 [(Qr Go.IntKind.i32 0)] 2 [(0,(Qo (Qp (Qq (Qr Go.IntKind.i32 92))))),(1,(Qn 50))]),Qa (Qv 52) (MOp.callv (Qn 49) [(Qn 51)])]
def f149_c21:MC:=.r0 f149_r21
def f149_r22:List MO:=[Qa (Qv 54) (Qd (Qn 7)),Qa (Qv 55) (Qh 167 [(Qn 54)]),Qa (Qv 53) (Qd (Qn 55))]
def f149_c22:MC:=.r0 f149_r22
def f149_r23:List MO:=[Qa (Qv 56) (Qd (Qn 5)),Qa (Qv 57) (Qd (Qn 7)),Qa (Qv 58) (MOp.bslice 1 [(Qr Go.IntKind.i32 0)] 1 [(0,(Qn 57))]),Qa (Qv 59) (MOp.callv (Qn 56) [(Qn 58)])]
def f149_c23:MC:=.r0 f149_r23
def f149_r24:List MO:=[Qa (Qv 28) (Qd (Qn 5)),Qa (Qv 29) (Qd (Qn 7)),Qa (Qv 30) (Qe Qt Go.BinOp.shr (Qn 29) (Qo (Qp (Qq (Qr Go.IntKind.u64 4))))),Qa (Qv 31) (MOp.idxS (Qo (Qp (Qq (D.str (ByteArray.mk #[48,49,50,51,52,53,54,55,56,57,97,98,99,100,101,102]))))) (Qn 30)),Qa (Qv 32) (MOp.conv Go.IntKind.i32 (Qn 31)),Qa (Qv 33) (Qd (Qn 7)),Qa (Qv 34) (Qe Qt Go.BinOp.and (Qn 33) (Qo (Qp (Qq (Qr Go.IntKind.i32 15))))),Qa (Qv 35) (MOp.idxS (Qo (Qp (Qq (D.str (ByteArray.mk #[48,49,50,51,52,53,54,55,56,57,97,98,99,100,101,102]))))) (Qn 34)),Qa (Qv 36) (MOp.conv Go.IntKind.i32 (Qn 35)),Qa (Qv 37) (MOp.bslice 1 [(Qr Go.IntKind.i32 0)] 4 [(0,(Qo (Qp (Qq (Qr Go.IntKind.i32 92))))),(1,(Qo (Qp (Qq (Qr Go.IntKind.i32 120))))),(2,(Qn 32)),(3,(Qn 36))]),Qc (Qv 38) (MOp.callv (Qn 28) [(Qn 37)])]
def f149_c24:MC:=.reg true f149_r24
def f149_c27:MC:=.cond (Qn 45) f149_c21 (.seq f149_c22 (.cond (Qn 53) f149_c23 f149_c24))
def f149_c30:MC:=.seq f149_c18 (.cond (Qn 39) f149_c19 (.seq f149_c20 f149_c27))
def f149_c36:MC:=.seq f149_c12 (.seq (.cond (Qn 20) .skip (MC.exit 0)) (.blk 1 (.seq f149_c16 (.seq f149_c17 (.blk 2 f149_c30)))))
def f149_r40:List MO:=[Qa (Qv 60) (Qd (Qn 5)),Qa (Qv 61) (MOp.bslice 1 [(Qr Go.IntKind.i32 0)] 1 [(0,(Qo (Qp (Qq (Qr Go.IntKind.i32 34)))))]),Qa (Qv 62) (MOp.callv (Qn 60) [(Qn 61)])]
def f149_c40:MC:=.r0 f149_r40
def f149_r41:List MO:=[Qa (Qv 63) (Qh 102 [(Qn 4)]),Qa (Qv 2) (Qd (Qn 63)),Qa (Qv 3) (Qd (Qo (Qp (Qq (Qr Qu 0)))))]
def f149_c41:MC:=.r0 f149_r41
def f149_c45:MC:=.seq (.seq f149_c11 (.blk 0 (.loop f149_c36))) (.seq f149_c40 (.seq f149_c41 .ret))
def f149_c48:MC:=.seq f149_c8 (.seq f149_c9 (.seq f149_c10 f149_c45))
def f149_c50:MC:=.seq f149_c0 (.seq (.seq f149_c1 (.cond (Qn 12) (.seq f149_c2 .ret) .skip)) f149_c48)
attribute [go_sem] f149_r0 f149_r1 f149_r2 f149_r8 f149_r9 f149_r10 f149_r11 f149_r12 f149_r16 f149_r17 f149_r18 f149_r19 f149_r20 f149_r21 f149_r22 f149_r23 f149_r24 f149_r40 f149_r41
theorem f149_k : KK QP 149 f149 [] f149_c50 [(RV.t 2),(RV.t 3)] 64 := by refine ⟨func149,?_,?_,?_,?_⟩<;>kernel_rfl
theorem f149_ok : callable QP 149 = true := by kernel_rfl
theorem f149_in (h : GI QP gp [(RV.t 2),(RV.t 3)] res 64 f149_c50 args) : Does QP gp 149 args res := f149_k.i f149_ok h
def f162_r0:List MO:=[Qa (Qv 2) (Qd (Qo (Qp (Qq (D.str (ByteArray.mk #[]))))))]
def f162_c0:MC:=.r0 f162_r0
def f162_r1:List MO:=[Qa (Qv 3) (Qd (Qn 0))]
def f162_c1:MC:=.r0 f162_r1
def f162_r2:List MO:=[Qa (Qv 2) (Qd (Qo (Qp (Qq (D.str (ByteArray.mk #[116,114,117,101]))))))]
def f162_c2:MC:=.r0 f162_r2
def f162_r8:List MO:=[Qa (Qv 2) (Qd (Qo (Qp (Qq (D.str (ByteArray.mk #[102,97,108,115,101]))))))]
def f162_c8:MC:=.r0 f162_r8
def f162_c12:MC:=.seq f162_c0 (.seq (.seq f162_c1 (.cond (Qn 3) (.seq f162_c2 .ret) .skip)) (.seq f162_c8 .ret))
attribute [go_sem] f162_r0 f162_r1 f162_r2 f162_r8
theorem f162_k : KK QP 162 f162 [] f162_c12 [(RV.t 2)] 4 := by refine ⟨func162,?_,?_,?_,?_⟩<;>kernel_rfl
theorem f162_ok : callable QP 162 = true := by kernel_rfl
theorem f162_in (h : GI QP gp [(RV.t 2)] res 4 f162_c12 args) : Does QP gp 162 args res := f162_k.i f162_ok h
def f163_r0:List MO:=[Qa (Qv 5) (Qd (Qn 0)),Qa (Qv 6) (Qk Qt (Qn 5)),Qa (Qv 7) (Qd (Qo (Qp (Qq (Qr Qu 0)))))]
def f163_c0:MC:=.r0 f163_r0
def f163_r1:List MO:=[Qa (Qv 8) (Qe Qt Go.BinOp.lss (Qn 7) (Qn 6))]
def f163_c1:MC:=.r0 f163_r1
def f163_r5:List MO:=[Qa (Qv 9) (Qj 1 (Qn 5) (Qn 7)),Qa (Qv 10) (Qf 1 false (Qn 9)),Qa (Qv 4) (Qd (Qn 10))]
def f163_c5:MC:=.r0 f163_r5
def f163_r6:List MO:=[Qa (Qv 11) (Qd (Qn 4)),Qa (Qv 12) (Qh 164 [(Qn 1),(Qn 11)])]
def f163_c6:MC:=.r0 f163_r6
def f163_r9:List MO:=[Qa (Qv 13) (Qe Qt Go.BinOp.add (Qn 7) (Qo (Qp (Qq (Qr Qu 1))))),Qa (Qv 7) (Qd (Qn 13))]
def f163_c9:MC:=.r0 f163_r9
def f163_c12:MC:=.seq f163_c1 (.seq (.cond (Qn 8) .skip (MC.exit 0)) (.seq (.blk 1 (.seq f163_c5 f163_c6)) f163_c9))
def f163_c15:MC:=.seq f163_c0 (.blk 0 (.loop f163_c12))
attribute [go_sem] f163_r0 f163_r1 f163_r5 f163_r6 f163_r9
theorem f163_k : KK QP 163 f163 [] f163_c15 [] 14 := by refine ⟨func163,?_,?_,?_,?_⟩<;>kernel_rfl
theorem f163_ok : callable QP 163 = true := by kernel_rfl
theorem f163_tri (h : GT QP gp [] pre R 14 f163_c15 args) : Tri QP gp 163 args pre R := f163_k.t h
def f164_r0:List MO:=[Qa (Qv 4) (Qd (Qo (Qp (Qq (Qr Qu 0))))),Qa (Qv 5) (Qd (Qo (Qp (Qq D.nilI))))]
def f164_c0:MC:=.r0 f164_r0
def f164_r1:List MO:=[Qa (Qv 7) (Qd (Qn 0)),Qa (Qv 8) (Qh 132 [(Qn 7)])]
def f164_c1:MC:=.r0 f164_r1
def f164_r2:List MO:=[Qa (Qv 9) (Qd (Qn 0)),Qa (Qv 10) (MOp.nck (Qn 9)),Qa (Qv 11) (Qg 1 (Qn 10)),Qa (Qv 12) (Qf 1 false (Qn 11)),Qa (Qv 13) (Qk Qt (Qn 12)),Qa (Qv 6) (Qd (Qn 13))]
def f164_c2:MC:=.r0 f164_r2
def f164_r3:List MO:=[Qa (Qv 14) (Qd (Qn 0)),Qa (Qv 15) (Qd (Qn 0)),Qa (Qv 16) (MOp.nck (Qn 15)),Qa (Qv 17) (Qg 1 (Qn 16)),Qa (Qv 18) (Qf 1 false (Qn 17)),Qa (Qv 19) (Qd (Qn 1)),Qa (Qv 20) (Qh 180 [(Qn 18),(Qn 19)]),Qa (Qv 21) (MOp.nck (Qn 14)),Qa (Qv 22) (Qg 1 (Qn 21)),Qa none (Ql 1 (Qn 22) (Qn 20))]
def f164_c3:MC:=.r0 f164_r3
def f164_r4:List MO:=[Qa (Qv 23) (Qd (Qn 0)),Qa (Qv 24) (MOp.nck (Qn 23)),Qa (Qv 25) (Qg 1 (Qn 24)),Qa (Qv 26) (Qf 1 false (Qn 25)),Qa (Qv 27) (Qk Qt (Qn 26)),Qa (Qv 28) (Qd (Qn 6)),Qa (Qv 29) (Qe Qt Go.BinOp.sub (Qn 27) (Qn 28)),Qa (Qv 4) (Qd (Qn 29)),Qa (Qv 5) (Qd (Qo (Qp (Qq D.nilI))))]
def f164_c4:MC:=.r0 f164_r4
def f164_c9:MC:=.seq f164_c1 (.seq f164_c2 (.seq f164_c3 (.seq f164_c4 .ret)))
def f164_c10:MC:=.seq f164_c0 f164_c9
attribute [go_sem] f164_r0 f164_r1 f164_r2 f164_r3 f164_r4
theorem f164_k : KK QP 164 f164 [] f164_c10 [(RV.t 4),(RV.t 5)] 30 := by refine ⟨func164,?_,?_,?_,?_⟩<;>kernel_rfl
theorem f164_ok : callable QP 164 = true := by kernel_rfl
theorem f164_tri (h : GT QP gp [(RV.t 4),(RV.t 5)] pre R 30 f164_c10 args) : Tri QP gp 164 args pre R := f164_k.t h
def f165_r0:List MO:=[Qa (Qv 0) (Qd (Qo (Qp (Qq (D.raw (Go.Value.map none))))))]
def f165_c0:MC:=.r0 f165_r0
def f165_r1:List MO:=[Qa (Qv 1) MOp.mkM,Qa none (MOp.mupd false [Qt] (Qn 1) (Qo (Qp (Qq (Qr Go.IntKind.i32 10)))) (Qo (Qp (Qq (Qr Go.IntKind.i32 110))))),Qa none (MOp.mupd false [Qt] (Qn 1) (Qo (Qp (Qq (Qr Go.IntKind.i32 9)))) (Qo (Qp (Qq (Qr Go.IntKind.i32 116))))),Qa none (MOp.mupd false [Qt] (Qn 1) (Qo (Qp (Qq (Qr Go.IntKind.i32 13)))) (Qo (Qp (Qq (Qr Go.IntKind.i32 114))))),Qa (Qv 2) (Qd (Qn 1)),Qa (Qv 0) (Qd (Qn 2))]
def f165_c1:MC:=.r0 f165_r1
def f165_c4:MC:=.seq f165_c0 (.seq f165_c1 .ret)
attribute [go_sem] f165_r0 f165_r1
theorem f165_k : KK QP 165 f165 [] f165_c4 [(RV.t 0)] 3 := by refine ⟨func165,?_,?_,?_,?_⟩<;>kernel_rfl
theorem f165_ok : callable QP 165 = true := by kernel_rfl
theorem f165_tri (h : GT QP gp [(RV.t 0)] pre R 3 f165_c4 args) : Tri QP gp 165 args pre R := f165_k.t h
def f166_r0:List MO:=[Qa (Qv 4) (Qd (Qo (Qp (Qq (Qs false)))))]
def f166_c0:MC:=.r0 f166_r0
def f166_r1:List MO:=[Qa (Qv 7) (Qd (Qn 1)),Qa (Qv 8) (Qk Qt (Qn 7)),Qa (Qv 9) (Qd (Qo (Qp (Qq (Qr Qu 0)))))]
def f166_c1:MC:=.r0 f166_r1
def f166_r2:List MO:=[Qa (Qv 10) (Qe Qt Go.BinOp.lss (Qn 9) (Qn 8))]
def f166_c2:MC:=.r0 f166_r2
def f166_r6:List MO:=[Qa (Qv 11) (Qj 1 (Qn 7) (Qn 9)),Qa (Qv 12) (Qf 1 false (Qn 11)),Qa (Qv 6) (Qd (Qn 12))]
def f166_c6:MC:=.r0 f166_r6
def f166_r7:List MO:=[Qa (Qv 13) (Qd (Qn 0)),Qa (Qv 14) (Qd (Qn 6)),Qa (Qv 15) (Qe Qt Go.BinOp.eql (Qn 13) (Qn 14))]
def f166_c7:MC:=.r0 f166_r7
def f166_r8:List MO:=[Qa (Qv 4) (Qd (Qo (Qp (Qq (Qs true)))))]
def f166_c8:MC:=.r0 f166_r8
def f166_r16:List MO:=[Qa (Qv 16) (Qe Qt Go.BinOp.add (Qn 9) (Qo (Qp (Qq (Qr Qu 1))))),Qa (Qv 9) (Qd (Qn 16))]
def f166_c16:MC:=.r0 f166_r16
def f166_c17:MC:=.seq (.blk 1 (.seq f166_c6 (.seq f166_c7 (.cond (Qn 15) (.seq f166_c8 .ret) .skip)))) f166_c16
def f166_r23:List MO:=[Qa (Qv 4) (Qd (Qo (Qp (Qq (Qs false)))))]
def f166_c23:MC:=.r0 f166_r23
def f166_c26:MC:=.seq (.seq f166_c1 (.blk 0 (.loop (.seq f166_c2 (.seq (.cond (Qn 10) .skip (MC.exit 0)) f166_c17))))) (.seq f166_c23 .ret)
def f166_c27:MC:=.seq f166_c0 f166_c26
attribute [go_sem] f166_r0 f166_r1 f166_r2 f166_r6 f166_r7 f166_r8 f166_r16 f166_r23
theorem f166_k : KK QP 166 f166 [] f166_c27 [(RV.t 4)] 17 := by refine ⟨func166,?_,?_,?_,?_⟩<;>kernel_rfl
theorem f166_ok : callable QP 166 = true := by kernel_rfl
theorem f166_in (h : GI QP gp [(RV.t 4)] res 17 f166_c27 args) : Does QP gp 166 args res := f166_k.i f166_ok h
def f167_r0:List MO:=[Qa (Qv 2) (Qd (Qo (Qp (Qq (Qs false)))))]
def f167_c0:MC:=.r0 f167_r0
def f167_r1:List MO:=[Qa (Qv 3) (Qd (Qn 0)),Qa (Qv 4) (Qe Qt Go.BinOp.geq (Qn 3) (Qo (Qp (Qq (Qr Go.IntKind.i32 32))))),Qa (Qv 5) (Qd (Qn 4)),Qb 5 true (Qv 6),Qa (Qv 6) (Qd (Qn 0)),Qb 5 true (Qv 7),Qa (Qv 7) (Qe Qt Go.BinOp.neq (Qn 6) (Qo (Qp (Qq (Qr Go.IntKind.i32 127))))),Qa (Qv 8) (Qm (Qn 5) (Qn 7) (Qo (Qp (Qq (Qs false))))),Qa (Qv 2) (Qd (Qn 8))]
def f167_c1:MC:=.r0 f167_r1
def f167_c4:MC:=.seq f167_c0 (.seq f167_c1 .ret)
attribute [go_sem] f167_r0 f167_r1
theorem f167_k : KK QP 167 f167 [] f167_c4 [(RV.t 2)] 9 := by refine ⟨func167,?_,?_,?_,?_⟩<;>kernel_rfl
theorem f167_ok : callable QP 167 = true := by kernel_rfl
theorem f167_in (h : GI QP gp [(RV.t 2)] res 9 f167_c4 args) : Does QP gp 167 args res := f167_k.i f167_ok h
def f180_r0:List MO:=[Qa (Qv 4) (Qd (Qo (Qp A.nil)))]
def f180_c0:MC:=.r0 f180_r0
def f180_r1:List MO:=[Qa (Qv 5) (Qd (Qn 1)),Qa (Qv 6) (MOp.conv Go.IntKind.u32 (Qn 5)),Qa (Qv 7) (Qe Qt Go.BinOp.leq (Qn 6) (Qo (Qp (Qq (Qr Go.IntKind.u32 127)))))]
def f180_c1:MC:=.r0 f180_r1
def f180_r2:List MO:=[Qa (Qv 8) (Qd (Qn 0)),Qa (Qv 9) (Qd (Qn 1)),Qa (Qv 10) (MOp.conv Go.IntKind.u8 (Qn 9)),Qa (Qv 11) (MOp.bslice 1 [(Qr Go.IntKind.u8 0)] 1 [(0,(Qn 10))]),Qa (Qv 12) (MOp.app 5 1 1 (Qn 8) (Qn 11)),Qa (Qv 4) (Qd (Qn 12))]
def f180_c2:MC:=.r0 f180_r2
def f180_r8:List MO:=[Qa (Qv 13) (Qd (Qn 0)),Qa (Qv 14) (Qd (Qn 1)),Qa (Qv 15) (Qh 187 [(Qn 13),(Qn 14)]),Qa (Qv 4) (Qd (Qn 15))]
def f180_c8:MC:=.r0 f180_r8
def f180_c12:MC:=.seq f180_c0 (.seq (.seq f180_c1 (.cond (Qn 7) (.seq f180_c2 .ret) .skip)) (.seq f180_c8 .ret))
attribute [go_sem] f180_r0 f180_r1 f180_r2 f180_r8
theorem f180_k : KK QP 180 f180 [] f180_c12 [(RV.t 4)] 16 := by refine ⟨func180,?_,?_,?_,?_⟩<;>kernel_rfl
theorem f180_ok : callable QP 180 = true := by kernel_rfl
theorem f180_tri (h : GT QP gp [(RV.t 4)] pre R 16 f180_c12 args) : Tri QP gp 180 args pre R := f180_k.t h
def f187_r0:List MO:=[Qa (Qv 4) (Qd (Qo (Qp A.nil)))]
def f187_c0:MC:=.r0 f187_r0
def f187_r1:List MO:=[Qa (Qv 6) (Qd (Qn 1)),Qa (Qv 7) (MOp.conv Go.IntKind.u32 (Qn 6)),Qa (Qv 5) (Qd (Qn 7))]
def f187_c1:MC:=.r0 f187_r1
def f187_r2:List MO:=[Qa (Qv 12) (Qd (Qn 5)),Qa (Qv 13) (Qe Qt Go.BinOp.leq (Qn 12) (Qo (Qp (Qq (Qr Go.IntKind.u32 2047))))),Qa (Qv 11) (Qd (Qn 13))]
def f187_c2:MC:=.r0 f187_r2
def f187_r3:List MO:=[Qa (Qv 14) (Qd (Qn 0)),Qa (Qv 15) (Qd (Qn 1)),Qa (Qv 16) (Qe Qt Go.BinOp.shr (Qn 15) (Qo (Qp (Qq (Qr Go.IntKind.u64 6))))),Qa (Qv 17) (MOp.conv Go.IntKind.u8 (Qn 16)),Qa (Qv 18) (Qe Qt Go.BinOp.or (Qo (Qp (Qq (Qr Go.IntKind.u8 192)))) (Qn 17)),Qa (Qv 19) (Qd (Qn 1)),Qa (Qv 20) (MOp.conv Go.IntKind.u8 (Qn 19)),Qa (Qv 21) (Qe Qt Go.BinOp.and (Qn 20) (Qo (Qp (Qq (Qr Go.IntKind.u8 63))))),Qa (Qv 22) (Qe Qt Go.BinOp.or (Qo (Qp (Qq (Qr Go.IntKind.u8 128)))) (Qn 21)),Qa (Qv 23) (MOp.bslice 1 [(Qr Go.IntKind.u8 0)] 2 [(0,(Qn 18)),(1,(Qn 22))]),Qa (Qv 24) (MOp.app 5 1 1 (Qn 14) (Qn 23)),Qa (Qv 4) (Qd (Qn 24))]
def f187_c3:MC:=.r0 f187_r3
def f187_r6:List MO:=[Qa (Qv 26) (Qd (Qn 5)),Qa (Qv 27) (Qe Qt Go.BinOp.lss (Qn 26) (Qo (Qp (Qq (Qr Go.IntKind.u32 55296))))),Qa (Qv 25) (Qd (Qn 27))]
def f187_c6:MC:=.r0 f187_r6
def f187_r8:List MO:=[Qa (Qv 28) (Qd (Qn 5)),Qa (Qv 29) (Qe Qt Go.BinOp.lss (Qo (Qp (Qq (Qr Go.IntKind.u32 57343)))) (Qn 28)),Qa (Qv 30) (Qd (Qn 29)),Qb 30 true (Qv 31),Qa (Qv 31) (Qd (Qn 5)),Qb 30 true (Qv 32),Qa (Qv 32) (Qe Qt Go.BinOp.leq (Qn 31) (Qo (Qp (Qq (Qr Go.IntKind.u32 65535))))),Qa (Qv 33) (Qm (Qn 30) (Qn 32) (Qo (Qp (Qq (Qs false))))),Qa (Qv 25) (Qd (Qn 33))]
def f187_c8:MC:=.r0 f187_r8
def f187_r11:List MO:=[Qa (Qv 34) (Qd (Qn 0)),Qa (Qv 35) (Qd (Qn 1)),Qa (Qv 36) (Qe Qt Go.BinOp.shr (Qn 35) (Qo (Qp (Qq (Qr Go.IntKind.u64 12))))),Qa (Qv 37) (MOp.conv Go.IntKind.u8 (Qn 36)),Qa (Qv 38) (Qe Qt Go.BinOp.or (Qo (Qp (Qq (Qr Go.IntKind.u8 224)))) (Qn 37)),Qa (Qv 39) (Qd (Qn 1)),Qa (Qv 40) (Qe Qt Go.BinOp.shr (Qn 39) (Qo (Qp (Qq (Qr Go.IntKind.u64 6))))),Qa (Qv 41) (MOp.conv Go.IntKind.u8 (Qn 40)),Qa (Qv 42) (Qe Qt Go.BinOp.and (Qn 41) (Qo (Qp (Qq (Qr Go.IntKind.u8 63))))),Qa (Qv 43) (Qe Qt Go.BinOp.or (Qo (Qp (Qq (Qr Go.IntKind.u8 128)))) (Qn 42)),Qa (Qv 44) (Qd (Qn 1)),Qa (Qv 45) (MOp.conv Go.IntKind.u8 (Qn 44)),Qa (Qv 46) (Qe Qt Go.BinOp.and (Qn 45) (Qo (Qp (Qq (Qr Go.IntKind.u8 63))))),Qa (Qv 47) (Qe Qt Go.BinOp.or (Qo (Qp (Qq (Qr Go.IntKind.u8 128)))) (Qn 46)),Qa (Qv 48) (MOp.bslice 1 [(Qr Go.IntKind.u8 0)] 3 [(0,(Qn 38)),(1,(Qn 43)),(2,(Qn 47))]),Qa (Qv 49) (MOp.app 5 1 1 (Qn 34) (Qn 48)),Qa (Qv 4) (Qd (Qn 49))]
def f187_c11:MC:=.r0 f187_r11
def f187_r14:List MO:=[Qa (Qv 51) (Qd (Qn 5)),Qa (Qv 52) (Qe Qt Go.BinOp.gtr (Qn 51) (Qo (Qp (Qq (Qr Go.IntKind.u32 65535))))),Qa (Qv 53) (Qd (Qn 52)),Qb 53 true (Qv 54),Qa (Qv 54) (Qd (Qn 5)),Qb 53 true (Qv 55),Qa (Qv 55) (Qe Qt Go.BinOp.leq (Qn 54) (Qo (Qp (Qq (Qr Go.IntKind.u32 1114111))))),Qa (Qv 56) (Qm (Qn 53) (Qn 55) (Qo (Qp (Qq (Qs false))))),Qa (Qv 50) (Qd (Qn 56))]
def f187_c14:MC:=.r0 f187_r14
def f187_r15:List MO:=[Qa (Qv 57) (Qd (Qn 0)),Qa (Qv 58) (Qd (Qn 1)),Qa (Qv 59) (Qe Qt Go.BinOp.shr (Qn 58) (Qo (Qp (Qq (Qr Go.IntKind.u64 18))))),Qa (Qv 60) (MOp.conv Go.IntKind.u8 (Qn 59)),Qa (Qv 61) (Qe Qt Go.BinOp.or (Qo (Qp (Qq (Qr Go.IntKind.u8 240)))) (Qn 60)),Qa (Qv 62) (Qd (Qn 1)),Qa (Qv 63) (Qe Qt Go.BinOp.shr (Qn 62) (Qo (Qp (Qq (Qr Go.IntKind.u64 12))))),Qa (Qv 64) (MOp.conv Go.IntKind.u8 (Qn 63)),Qa (Qv 65) (Qe Qt Go.BinOp.and (Qn 64) (Qo (Qp (Qq (Qr Go.IntKind.u8 63))))),Qa (Qv 66) (Qe Qt Go.BinOp.or (Qo (Qp (Qq (Qr Go.IntKind.u8 128)))) (Qn 65)),Qa (Qv 67) (Qd (Qn 1)),Qa (Qv 68) (Qe Qt Go.BinOp.shr (Qn 67) (Qo (Qp (Qq (Qr Go.IntKind.u64 6))))),Qa (Qv 69) (MOp.conv Go.IntKind.u8 (Qn 68)),Qa (Qv 70) (Qe Qt Go.BinOp.and (Qn 69) (Qo (Qp (Qq (Qr Go.IntKind.u8 63))))),Qa (Qv 71) (Qe Qt Go.BinOp.or (Qo (Qp (Qq (Qr Go.IntKind.u8 128)))) (Qn 70)),Qa (Qv 72) (Qd (Qn 1)),Qa (Qv 73) (MOp.conv Go.IntKind.u8 (Qn 72)),Qa (Qv 74) (Qe Qt Go.BinOp.and (Qn 73) (Qo (Qp (Qq (Qr Go.IntKind.u8 63))))),Qa (Qv 75) (Qe Qt Go.BinOp.or (Qo (Qp (Qq (Qr Go.IntKind.u8 128)))) (Qn 74)),Qa (Qv 76) (MOp.bslice 1 [(Qr Go.IntKind.u8 0)] 4 [(0,(Qn 61)),(1,(Qn 66)),(2,(Qn 71)),(3,(Qn 75))]),Qa (Qv 77) (MOp.app 5 1 1 (Qn 57) (Qn 76)),Qa (Qv 4) (Qd (Qn 77))]
def f187_c15:MC:=.r0 f187_r15
def f187_r18:List MO:=[Qa (Qv 8) (Qd (Qn 0)),Qa (Qv 9) (MOp.bslice 1 [(Qr Go.IntKind.u8 0)] 3 [(0,(Qo (Qp (Qq (Qr Go.IntKind.u8 239))))),(1,(Qo (Qp (Qq (Qr Go.IntKind.u8 191))))),(2,(Qo (Qp (Qq (Qr Go.IntKind.u8 189)))))]),Qa (Qv 10) (MOp.app 5 1 1 (Qn 8) (Qn 9)),Qa (Qv 4) (Qd (Qn 10))]
def f187_c18:MC:=.r0 f187_r18
def f187_c23:MC:=.cond (Qn 25) (.seq f187_c11 .ret) (.seq f187_c14 (.cond (Qn 50) (.seq f187_c15 .ret) (.seq f187_c18 .ret)))
def f187_c25:MC:=.cond (Qn 11) (.seq f187_c3 .ret) (.seq (.seq f187_c6 (.cond (Qn 25) .skip f187_c8)) f187_c23)
def f187_c29:MC:=.seq f187_c0 (.seq f187_c1 (.blk 0 (.seq f187_c2 f187_c25)))
attribute [go_sem] f187_r0 f187_r1 f187_r2 f187_r3 f187_r6 f187_r8 f187_r11 f187_r14 f187_r15 f187_r18
theorem f187_k : KK QP 187 f187 [] f187_c29 [(RV.t 4)] 78 := by refine ⟨func187,?_,?_,?_,?_⟩<;>kernel_rfl
theorem f187_ok : callable QP 187 = true := by kernel_rfl
theorem f187_tri (h : GT QP gp [(RV.t 4)] pre R 78 f187_c29 args) : Tri QP gp 187 args pre R := f187_k.t h
-- f188: trC none
-- f189: trC none
-- f190: no body
-- f191: no body
-- f192: no body
-- f193: no body
-- f194: no body
-- f195: no body
-- f196: no body
-- f197: no body
-- f198: no body
-- f199: no body
-- f200: no body
-- f201: no body
-- f202: no body
-- f203: no body
-- f204: no body
-- f205: no body
-- f206: no body
-- f207: no body
-- f208: no body
-- f209: no body
-- f210: no body
-- f211: no body
-- f212: no body
-- f213: no body
-- f214: no body
-- f215: no body
-- f216: no body
-- f217: no body
-- f218: no body
-- f219: no body
-- f220: no body
-- f221: no body
-- f222: no body
-- f223: no body
-- f224: no body
-- f225: no body
end Go.Fw.L07
