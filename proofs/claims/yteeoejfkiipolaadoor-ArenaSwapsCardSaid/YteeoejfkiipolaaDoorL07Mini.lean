/- Small codes. -/
import Derived.Test.YteeoejfkiipolaaDoorFd
import Derived.Test.YteeoejfkiipolaaDoorProg
set_option linter.all false
namespace Go.Fw.L07
open Go Go.Fw
open Go.Proofs.Tryd renaming prog -> QP
open Go.Proofs.Tryd (f10 f11 f12 f13 f14 f15 f16 f17 f18 f19 f20 f21 f22 f23 f25 f26 f27 f28 f29 f3 f30 f31 f36 f37 f38 f39 f4 f40 f41 f42 f43 f47 f48 f49 f5 f50 f51 f53 f54 f55 f56 f57 f58 f59 f6 f60 f61 f63 f65 f66 f67 f7 f70 f8 f9 func10 func11 func12 func13 func14 func15 func16 func17 func18 func19 func20 func21 func22 func23 func25 func26 func27 func28 func29 func3 func30 func31 func36 func37 func38 func39 func4 func40 func41 func42 func43 func47 func48 func49 func5 func50 func51 func53 func54 func55 func56 func57 func58 func59 func6 func60 func61 func63 func65 func66 func67 func7 func70 func8 func9)
open Go.Fw.MO renaming op -> Qa,chk -> Qb,opx -> Qc
open Go.Fw.MOp renaming mv -> Qd,bin -> Qe,load -> Qf,fad -> Qg,call -> Qh,ext -> Qi,iad -> Qj,len -> Qk,store -> Ql,pick -> Qm
open Go.Fw.Opd renaming t -> Qn,c -> Qo
open Go.Fw.V renaming one -> Qp
open Go.Fw.A renaming d -> Qq
open Go.Fw.D renaming int -> Qr,bool -> Qs
open Go.Fw.Leaf renaming i -> Qt
open Go.IntKind renaming i64 -> Qu
open Option renaming some -> Qv
variable {gp : Heap} {args : List V} {res : V} {pre : List Ch} {R : V -> List Ch -> Prop}
def f3_r0:List MO:=[Qa (Qv 2) (MOp.box (Qn 0)),Qa (Qv 4) (Qd (Qo (Qp (Qq (Qs false)))))]
def f3_c0:MC:=.r0 f3_r0
def f3_r1:List MO:=[Qa (Qv 20) (Qh 4 []),Qa (Qv 5) (Qd (Qn 20))]
def f3_c1:MC:=.r0 f3_r1
def f3_r2:List MO:=[Qa (Qv 21) (Qf 2 true (Qn 2)),Qa (Qv 22) (Qh 5 [(Qn 21)]),Qa none (Ql 2 (Qn 2) (Qn 22))]
def f3_c2:MC:=.r0 f3_r2
def f3_r3:List MO:=[Qa (Qv 24) (Qf 2 true (Qn 2)),Qa (Qv 25) (Qh 6 [(Qn 24)]),Qa (Qv 23) (Qd (Qn 25)),Qa (Qv 26) (Qi (Qn 23) 0),Qa (Qv 27) (Qi (Qn 23) 1),Qa (Qv 6) (Qd (Qn 26)),Qa (Qv 7) (Qd (Qn 27))]
def f3_c3:MC:=.r0 f3_r3
def f3_r4:List MO:=[Qa (Qv 28) (Qd (Qn 7)),Qa (Qv 29) (Qe Qt Go.BinOp.neq (Qn 28) (Qo (Qp (Qq (Qr Qu 0))))),Qa (Qv 30) (Qd (Qn 29)),Qb 30 false (Qv 31),Qa (Qv 31) (Qd (Qn 1)),Qb 30 false (Qv 32),Qa (Qv 32) (Qe Qt Go.BinOp.lss (Qn 31) (Qo (Qp (Qq (Qr Qu 0))))),Qa (Qv 33) (Qm (Qn 30) (Qo (Qp (Qq (Qs true)))) (Qn 32)),Qa (Qv 34) (Qd (Qn 33)),Qb 34 false (Qv 35),Qa (Qv 35) (Qd (Qn 1)),Qb 34 false (Qv 36),Qa (Qv 36) (Qg 1 (Qn 2)),Qb 34 false (Qv 37),Qa (Qv 37) (Qf 1 false (Qn 36)),Qb 34 false (Qv 38),Qa (Qv 38) (Qk Qt (Qn 37)),Qb 34 false (Qv 39),Qa (Qv 39) (Qe Qt Go.BinOp.geq (Qn 35) (Qn 38)),Qa (Qv 40) (Qm (Qn 34) (Qo (Qp (Qq (Qs true)))) (Qn 39))]
def f3_c4:MC:=.r0 f3_r4
def f3_r5:List MO:=[Qa (Qv 41) (Qd (Qn 5)),Qa (Qv 4) (Qd (Qn 41))]
def f3_c5:MC:=.r0 f3_r5
def f3_r11:List MO:=[Qa (Qv 43) (Qf 2 true (Qn 2)),Qa (Qv 44) (Qd (Qn 1)),Qa (Qv 45) (Qh 7 [(Qn 43),(Qn 44)]),Qa (Qv 42) (Qd (Qn 45)),Qa (Qv 46) (Qi (Qn 42) 0),Qa (Qv 47) (Qi (Qn 42) 1),Qa (Qv 8) (Qd (Qn 46)),Qa (Qv 9) (Qd (Qn 47))]
def f3_c11:MC:=.r0 f3_r11
def f3_r12:List MO:=[Qa (Qv 49) (Qf 2 true (Qn 2)),Qa (Qv 50) (Qd (Qn 1)),Qa (Qv 51) (Qh 8 [(Qn 49),(Qn 50)]),Qa (Qv 48) (Qd (Qn 51)),Qa (Qv 52) (Qi (Qn 48) 0),Qa (Qv 53) (Qi (Qn 48) 1),Qa (Qv 10) (Qd (Qn 52)),Qa (Qv 11) (Qd (Qn 53))]
def f3_c12:MC:=.r0 f3_r12
def f3_r13:List MO:=[Qa (Qv 54) (Qg 1 (Qn 2)),Qa (Qv 55) (Qf 1 false (Qn 54)),Qa (Qv 56) (Qd (Qn 1)),Qa (Qv 57) (Qj 6 (Qn 55) (Qn 56)),Qa (Qv 58) (Qg 0 (Qn 57)),Qa (Qv 59) (Qf 1 false (Qn 58)),Qa (Qv 60) (Qg 1 (Qn 2)),Qa (Qv 61) (Qf 1 false (Qn 60)),Qa (Qv 62) (Qd (Qn 1)),Qa (Qv 63) (Qj 6 (Qn 61) (Qn 62)),Qa (Qv 64) (Qg 1 (Qn 63)),Qa (Qv 65) (Qf 3 true (Qn 64)),Qa (Qv 66) (MOp.build [(Qr Qu 0),(Qr Qu 0),(Qr Qu 0),(D.str (ByteArray.mk #[])),(D.sl []),(D.sl [])] [(0,(1,(Qn 59))),(1,(3,(Qn 65)))]),Qa (Qv 12) (MOp.alloc [(Qr Qu 0),(Qr Qu 0),(Qr Qu 0),(D.str (ByteArray.mk #[])),(D.sl []),(D.sl [])]),Qa none (Ql 6 (Qn 12) (Qn 66))]
def f3_c13:MC:=.reg true f3_r13
def f3_r14:List MO:=[Qa (Qv 67) (Qg 1 (Qn 2)),Qa (Qv 68) (Qf 1 false (Qn 67)),Qa (Qv 69) (Qd (Qn 1)),Qa (Qv 70) (Qj 6 (Qn 68) (Qn 69)),Qa (Qv 71) (Qg 4 (Qn 70)),Qa (Qv 72) (Qf 1 false (Qn 71)),Qa (Qv 73) (Qk Qt (Qn 72)),Qa (Qv 74) (Qe Qt Go.BinOp.sub (Qn 73) (Qo (Qp (Qq (Qr Qu 1))))),Qa (Qv 13) (Qd (Qn 74))]
def f3_c14:MC:=.r0 f3_r14
def f3_r15:List MO:=[Qa (Qv 75) (Qd (Qn 13)),Qa (Qv 76) (Qe Qt Go.BinOp.geq (Qn 75) (Qo (Qp (Qq (Qr Qu 0)))))]
def f3_c15:MC:=.r0 f3_r15
def f3_r20:List MO:=[Qa (Qv 79) (Qg 4 (Qn 12)),Qa (Qv 80) (Qf 1 false (Qn 79)),Qa (Qv 81) (Qg 1 (Qn 2)),Qa (Qv 82) (Qf 1 false (Qn 81)),Qa (Qv 83) (Qd (Qn 1)),Qa (Qv 84) (Qj 6 (Qn 82) (Qn 83)),Qa (Qv 85) (Qg 4 (Qn 84)),Qa (Qv 86) (Qf 1 false (Qn 85)),Qa (Qv 87) (Qd (Qn 13)),Qa (Qv 88) (Qj 3 (Qn 86) (Qn 87)),Qa (Qv 89) (Qf 3 true (Qn 88)),Qa (Qv 90) (MOp.bslice 3 [(Qr Qu 0),(Qr Qu 0),(D.str (ByteArray.mk #[]))] 1 [(0,(Qn 89))]),Qa (Qv 91) (MOp.app 37 3 32 (Qn 80) (Qn 90)),Qa (Qv 92) (Qg 4 (Qn 12)),Qa none (Ql 1 (Qn 92) (Qn 91))]
def f3_c20:MC:=.reg true f3_r20
def f3_r21:List MO:=[Qa (Qv 93) (Qg 5 (Qn 12)),Qa (Qv 94) (Qf 1 false (Qn 93)),Qa (Qv 95) (Qg 1 (Qn 2)),Qa (Qv 96) (Qf 1 false (Qn 95)),Qa (Qv 97) (Qd (Qn 1)),Qa (Qv 98) (Qj 6 (Qn 96) (Qn 97)),Qa (Qv 99) (Qg 5 (Qn 98)),Qa (Qv 100) (Qf 1 false (Qn 99)),Qa (Qv 101) (Qd (Qn 13)),Qa (Qv 102) (Qj 1 (Qn 100) (Qn 101)),Qa (Qv 103) (Qf 1 false (Qn 102)),Qa (Qv 104) (MOp.bslice 1 [(Qr Qu 0)] 1 [(0,(Qn 103))]),Qa (Qv 105) (MOp.app 3 1 8 (Qn 94) (Qn 104)),Qa (Qv 106) (Qg 5 (Qn 12)),Qa none (Ql 1 (Qn 106) (Qn 105))]
def f3_c21:MC:=.reg true f3_r21
def f3_r24:List MO:=[Qa (Qv 77) (Qd (Qn 13)),Qa (Qv 78) (Qe Qt Go.BinOp.sub (Qn 77) (Qo (Qp (Qq (Qr Qu 1))))),Qa (Qv 13) (Qd (Qn 78))]
def f3_c24:MC:=.r0 f3_r24
def f3_c26:MC:=.seq (.seq f3_c15 (.cond (Qn 76) .skip (MC.exit 0))) (.seq (.blk 1 (.seq f3_c20 f3_c21)) f3_c24)
def f3_r30:List MO:=[Qa (Qv 107) (Qg 4 (Qn 12)),Qa (Qv 108) (Qf 1 false (Qn 107)),Qa (Qv 109) (Qk Qt (Qn 108)),Qa (Qv 110) (Qe Qt Go.BinOp.eql (Qn 109) (Qo (Qp (Qq (Qr Qu 0)))))]
def f3_c30:MC:=.r0 f3_r30
def f3_r31:List MO:=[Qa (Qv 111) (Qd (Qn 5)),Qa (Qv 112) (Qd (Qn 111)),Qb 112 true (Qv 113),Qa (Qv 113) (Qd (Qn 10)),Qb 112 true (Qv 114),Qa (Qv 114) (Qk Qt (Qn 113)),Qb 112 true (Qv 115),Qa (Qv 115) (Qe Qt Go.BinOp.eql (Qn 114) (Qo (Qp (Qq (Qr Qu 0))))),Qa (Qv 116) (Qm (Qn 112) (Qn 115) (Qo (Qp (Qq (Qs false))))),Qa (Qv 4) (Qd (Qn 116))]
def f3_c31:MC:=.r0 f3_r31
def f3_r37:List MO:=[Qa (Qv 117) (Qg 1 (Qn 2)),Qa (Qv 118) (Qf 1 false (Qn 117)),Qa (Qv 119) (Qd (Qn 1)),Qa (Qv 120) (Qf 6 true (Qn 12)),Qa (Qv 121) (Qj 6 (Qn 118) (Qn 119)),Qa none (Ql 6 (Qn 121) (Qn 120))]
def f3_c37:MC:=.r0 f3_r37
def f3_r38:List MO:=[Qa (Qv 123) (Qf 2 true (Qn 2)),Qa (Qv 124) (Qh 6 [(Qn 123)]),Qa (Qv 122) (Qd (Qn 124)),Qa (Qv 125) (Qi (Qn 122) 0),Qa (Qv 126) (Qi (Qn 122) 1),Qa (Qv 14) (Qd (Qn 125)),Qa (Qv 15) (Qd (Qn 126))]
def f3_c38:MC:=.r0 f3_r38
def f3_r39:List MO:=[Qa (Qv 128) (Qf 2 true (Qn 2)),Qa (Qv 129) (Qd (Qn 1)),Qa (Qv 130) (Qh 7 [(Qn 128),(Qn 129)]),Qa (Qv 127) (Qd (Qn 130)),Qa (Qv 131) (Qi (Qn 127) 0),Qa (Qv 132) (Qi (Qn 127) 1),Qa (Qv 16) (Qd (Qn 131)),Qa (Qv 17) (Qd (Qn 132))]
def f3_c39:MC:=.r0 f3_r39
def f3_r40:List MO:=[Qa (Qv 134) (Qf 2 true (Qn 2)),Qa (Qv 135) (Qd (Qn 1)),Qa (Qv 136) (Qh 8 [(Qn 134),(Qn 135)]),Qa (Qv 133) (Qd (Qn 136)),Qa (Qv 137) (Qi (Qn 133) 0),Qa (Qv 138) (Qi (Qn 133) 1),Qa (Qv 18) (Qd (Qn 137)),Qa (Qv 19) (Qd (Qn 138))]
def f3_c40:MC:=.r0 f3_r40
def f3_r41:List MO:=[Qa (Qv 139) (Qd (Qn 5)),Qa (Qv 140) (Qd (Qn 139)),Qb 140 true (Qv 141),Qa (Qv 141) (Qd (Qn 15)),Qb 140 true (Qv 142),Qa (Qv 142) (Qe Qt Go.BinOp.eql (Qn 141) (Qo (Qp (Qq (Qr Qu 0))))),Qa (Qv 143) (Qm (Qn 140) (Qn 142) (Qo (Qp (Qq (Qs false))))),Qa (Qv 144) (Qd (Qn 143)),Qb 144 true (Qv 145),Qa (Qv 145) (Qd (Qn 17)),Qb 144 true (Qv 146),Qa (Qv 146) (Qe Qt Go.BinOp.eql (Qn 145) (Qo (Qp (Qq (Qr Qu 0))))),Qa (Qv 147) (Qm (Qn 144) (Qn 146) (Qo (Qp (Qq (Qs false))))),Qa (Qv 148) (Qd (Qn 147)),Qb 148 true (Qv 149),Qa (Qv 149) (Qd (Qn 19)),Qb 148 true (Qv 150),Qa (Qv 150) (Qe Qt Go.BinOp.eql (Qn 149) (Qo (Qp (Qq (Qr Qu 0))))),Qa (Qv 151) (Qm (Qn 148) (Qn 150) (Qo (Qp (Qq (Qs false))))),Qa (Qv 152) (Qd (Qn 151)),Qb 152 true (Qv 153),Qa (Qv 153) (Qd (Qn 8)),Qb 152 true (Qv 154),Qa (Qv 154) (Qd (Qn 16)),Qb 152 true (Qv 155),Qa (Qv 155) (Qh 9 [(Qn 153),(Qn 154)]),Qa (Qv 156) (Qm (Qn 152) (Qn 155) (Qo (Qp (Qq (Qs false))))),Qa (Qv 157) (Qd (Qn 156)),Qb 157 true (Qv 158),Qa (Qv 158) (Qd (Qn 10)),Qb 157 true (Qv 159),Qa (Qv 159) (Qd (Qn 18)),Qb 157 true (Qv 160),Qa (Qv 160) (Qh 10 [(Qn 158),(Qn 159)]),Qa (Qv 161) (Qm (Qn 157) (Qn 160) (Qo (Qp (Qq (Qs false))))),Qa (Qv 4) (Qd (Qn 161))]
def f3_c41:MC:=.r0 f3_r41
def f3_c46:MC:=.seq f3_c38 (.seq f3_c39 (.seq f3_c40 (.seq f3_c41 .ret)))
def f3_c48:MC:=.seq (.seq f3_c30 (.cond (Qn 110) (.seq f3_c31 .ret) .skip)) (.seq f3_c37 f3_c46)
def f3_c50:MC:=.seq f3_c13 (.seq (.seq f3_c14 (.blk 0 (.loop f3_c26))) f3_c48)
def f3_c53:MC:=.seq (.seq f3_c4 (.cond (Qn 40) (.seq f3_c5 .ret) .skip)) (.seq f3_c11 (.seq f3_c12 f3_c50))
def f3_c56:MC:=.seq f3_c1 (.seq f3_c2 (.seq f3_c3 f3_c53))
def f3_c57:MC:=.seq f3_c0 f3_c56
attribute [go_sem] f3_r0 f3_r1 f3_r2 f3_r3 f3_r4 f3_r5 f3_r11 f3_r12 f3_r13 f3_r14 f3_r15 f3_r20 f3_r21 f3_r24 f3_r30 f3_r31 f3_r37 f3_r38 f3_r39 f3_r40 f3_r41
theorem f3_k : KK QP 3 f3 [] f3_c57 [(RV.t 4)] 162 := by refine ⟨func3,?_,?_,?_,?_⟩<;>kernel_rfl
theorem f3_ok : callable QP 3 = true := by kernel_rfl
theorem f3_in (h : GI QP gp [(RV.t 4)] res 162 f3_c57 args) : Does QP gp 3 args res := f3_k.i f3_ok h
def f4_r0:List MO:=[Qa (Qv 0) (Qd (Qo (Qp (Qq (Qs false)))))]
def f4_c0:MC:=.r0 f4_r0
def f4_r1:List MO:=[Qa (Qv 14) (MOp.build [(Qr Qu 0),(Qr Qu 0),(D.str (ByteArray.mk #[]))] [(0,(1,(Qo (Qp (Qq (Qr Qu 3)))))),(2,(1,(Qo (Qp (Qq (D.str (ByteArray.mk #[98])))))))]),Qa (Qv 15) (MOp.build [(Qr Qu 0),(Qr Qu 0),(D.str (ByteArray.mk #[]))] [(0,(1,(Qo (Qp (Qq (Qr Qu 2)))))),(1,(1,(Qo (Qp (Qq (Qr Qu 2))))))]),Qa (Qv 16) (MOp.bslice 3 [(Qr Qu 0),(Qr Qu 0),(D.str (ByteArray.mk #[]))] 2 [(0,(Qn 14)),(1,(Qn 15))]),Qa (Qv 17) (MOp.bslice 1 [(Qr Qu 0)] 2 [(0,(Qo (Qp (Qq (Qr Qu 0))))),(1,(Qo (Qp (Qq (Qr Qu 1)))))]),Qa (Qv 18) (MOp.build [(Qr Qu 0),(Qr Qu 0),(Qr Qu 0),(D.str (ByteArray.mk #[])),(D.sl []),(D.sl [])] [(0,(1,(Qo (Qp (Qq (Qr Qu 2)))))),(4,(1,(Qn 16))),(5,(1,(Qn 17)))]),Qa (Qv 19) (MOp.build [(Qr Qu 0),(Qr Qu 0),(D.str (ByteArray.mk #[]))] [(0,(1,(Qo (Qp (Qq (Qr Qu 2)))))),(1,(1,(Qo (Qp (Qq (Qr Qu 5))))))]),Qa (Qv 20) (MOp.build [(Qr Qu 0),(Qr Qu 0),(Qr Qu 0),(D.str (ByteArray.mk #[])),(D.sl []),(D.sl [])] [(1,(3,(Qn 19)))]),Qa (Qv 21) (MOp.bslice 6 [(Qr Qu 0),(Qr Qu 0),(Qr Qu 0),(D.str (ByteArray.mk #[])),(D.sl []),(D.sl [])] 2 [(0,(Qn 18)),(1,(Qn 20))]),Qa (Qv 22) (MOp.build [(Qr Qu 0),(D.sl [])] [(1,(1,(Qn 21)))]),Qa (Qv 1) (MOp.alloc [(Qr Qu 0),(D.sl [])]),Qa none (Ql 2 (Qn 1) (Qn 22))]
def f4_c1:MC:=.r0 f4_r1
def f4_r2:List MO:=[Qa (Qv 24) (Qf 2 true (Qn 1)),Qa (Qv 25) (Qh 6 [(Qn 24)]),Qa (Qv 23) (Qd (Qn 25)),Qa (Qv 26) (Qi (Qn 23) 0),Qa (Qv 27) (Qi (Qn 23) 1),Qa (Qv 2) (Qd (Qn 26)),Qa (Qv 3) (Qd (Qn 27))]
def f4_c2:MC:=.r0 f4_r2
def f4_r3:List MO:=[Qa (Qv 29) (Qf 2 true (Qn 1)),Qa (Qv 30) (Qh 7 [(Qn 29),(Qo (Qp (Qq (Qr Qu 0))))]),Qa (Qv 28) (Qd (Qn 30)),Qa (Qv 31) (Qi (Qn 28) 0),Qa (Qv 32) (Qi (Qn 28) 1),Qa (Qv 4) (Qd (Qn 31)),Qa (Qv 5) (Qd (Qn 32))]
def f4_c3:MC:=.r0 f4_r3
def f4_r4:List MO:=[Qa (Qv 34) (Qf 2 true (Qn 1)),Qa (Qv 35) (Qh 8 [(Qn 34),(Qo (Qp (Qq (Qr Qu 0))))]),Qa (Qv 33) (Qd (Qn 35)),Qa (Qv 36) (Qi (Qn 33) 0),Qa (Qv 37) (Qi (Qn 33) 1),Qa (Qv 6) (Qd (Qn 36)),Qa (Qv 7) (Qd (Qn 37))]
def f4_c4:MC:=.r0 f4_r4
def f4_r5:List MO:=[Qa (Qv 39) (Qf 2 true (Qn 1)),Qa (Qv 40) (MOp.build [(Qr Qu 0),(Qr Qu 0),(D.str (ByteArray.mk #[]))] [(0,(1,(Qo (Qp (Qq (Qr Qu 2)))))),(1,(1,(Qo (Qp (Qq (Qr Qu 2))))))]),Qa (Qv 41) (Qh 11 [(Qn 39),(Qo (Qp (Qq (Qr Qu 0)))),(Qn 40)]),Qa (Qv 38) (Qd (Qn 41)),Qa (Qv 42) (Qi (Qn 38) 0),Qa (Qv 43) (Qi (Qn 38) 1),Qa (Qv 8) (Qd (Qn 42)),Qa (Qv 9) (Qd (Qn 43))]
def f4_c5:MC:=.r0 f4_r5
def f4_r6:List MO:=[Qa (Qv 45) (MOp.bslice 1 [(Qr Qu 0)] 1 [(0,(Qo (Qp (Qq (Qr Qu 1)))))]),Qa (Qv 46) (MOp.build [(Qr Qu 0),(Qr Qu 0),(Qr Qu 0),(D.str (ByteArray.mk #[])),(D.sl []),(D.sl [])] [(0,(1,(Qo (Qp (Qq (Qr Qu 1)))))),(5,(1,(Qn 45)))]),Qa (Qv 47) (MOp.bslice 6 [(Qr Qu 0),(Qr Qu 0),(Qr Qu 0),(D.str (ByteArray.mk #[])),(D.sl []),(D.sl [])] 1 [(0,(Qn 46))]),Qa (Qv 48) (MOp.build [(Qr Qu 0),(D.sl [])] [(1,(1,(Qn 47)))]),Qa (Qv 49) (Qh 6 [(Qn 48)]),Qa (Qv 44) (Qd (Qn 49)),Qa (Qv 50) (Qi (Qn 44) 0),Qa (Qv 51) (Qi (Qn 44) 1),Qa (Qv 10) (Qd (Qn 50)),Qa (Qv 11) (Qd (Qn 51))]
def f4_c6:MC:=.r0 f4_r6
def f4_r7:List MO:=[Qa (Qv 53) (Qf 2 true (Qn 1)),Qa (Qv 54) (Qh 7 [(Qn 53),(Qo (Qp (Qq (Qr Qu 2))))]),Qa (Qv 52) (Qd (Qn 54)),Qa (Qv 55) (Qi (Qn 52) 0),Qa (Qv 56) (Qi (Qn 52) 1),Qa (Qv 12) (Qd (Qn 55)),Qa (Qv 13) (Qd (Qn 56))]
def f4_c7:MC:=.r0 f4_r7
def f4_r8:List MO:=[Qa (Qv 57) (Qd (Qn 3)),Qa (Qv 58) (Qe Qt Go.BinOp.eql (Qn 57) (Qo (Qp (Qq (Qr Qu 0))))),Qa (Qv 59) (Qd (Qn 58)),Qb 59 true (Qv 60),Qa (Qv 60) (Qd (Qn 5)),Qb 59 true (Qv 61),Qa (Qv 61) (Qe Qt Go.BinOp.eql (Qn 60) (Qo (Qp (Qq (Qr Qu 0))))),Qa (Qv 62) (Qm (Qn 59) (Qn 61) (Qo (Qp (Qq (Qs false))))),Qa (Qv 63) (Qd (Qn 62)),Qb 63 true (Qv 64),Qa (Qv 64) (Qd (Qn 4)),Qb 63 true (Qv 65),Qa (Qv 65) (MOp.bslice 1 [(Qr Qu 0)] 2 [(0,(Qo (Qp (Qq (Qr Qu 1))))),(1,(Qo (Qp (Qq (Qr Qu 0)))))]),Qb 63 true (Qv 66),Qa (Qv 66) (Qh 9 [(Qn 64),(Qn 65)]),Qa (Qv 67) (Qm (Qn 63) (Qn 66) (Qo (Qp (Qq (Qs false))))),Qa (Qv 68) (Qd (Qn 67)),Qb 68 true (Qv 69),Qa (Qv 69) (Qd (Qn 7)),Qb 68 true (Qv 70),Qa (Qv 70) (Qe Qt Go.BinOp.eql (Qn 69) (Qo (Qp (Qq (Qr Qu 0))))),Qa (Qv 71) (Qm (Qn 68) (Qn 70) (Qo (Qp (Qq (Qs false))))),Qa (Qv 72) (Qd (Qn 71)),Qb 72 true (Qv 73),Qa (Qv 73) (Qd (Qn 6)),Qb 72 true (Qv 74),Qa (Qv 74) (Qk Qt (Qn 73)),Qb 72 true (Qv 75),Qa (Qv 75) (Qe Qt Go.BinOp.eql (Qn 74) (Qo (Qp (Qq (Qr Qu 2))))),Qa (Qv 76) (Qm (Qn 72) (Qn 75) (Qo (Qp (Qq (Qs false))))),Qa (Qv 77) (Qd (Qn 76)),Qb 77 true (Qv 78),Qa (Qv 78) (Qd (Qn 6)),Qb 77 true (Qv 79),Qa (Qv 79) (Qj 3 (Qn 78) (Qo (Qp (Qq (Qr Qu 0))))),Qb 77 true (Qv 80),Qa (Qv 80) (Qg 0 (Qn 79)),Qb 77 true (Qv 81),Qa (Qv 81) (Qf 1 false (Qn 80)),Qb 77 true (Qv 82),Qa (Qv 82) (Qe Qt Go.BinOp.eql (Qn 81) (Qo (Qp (Qq (Qr Qu 2))))),Qa (Qv 83) (Qm (Qn 77) (Qn 82) (Qo (Qp (Qq (Qs false))))),Qa (Qv 84) (Qd (Qn 83)),Qb 84 true (Qv 85),Qa (Qv 85) (Qd (Qn 8)),Qb 84 true (Qv 86),Qa (Qv 86) (Qe Qt Go.BinOp.eql (Qn 85) (Qo (Qp (Qq (Qr Qu 1))))),Qa (Qv 87) (Qm (Qn 84) (Qn 86) (Qo (Qp (Qq (Qs false))))),Qa (Qv 88) (Qd (Qn 87)),Qb 88 true (Qv 89),Qa (Qv 89) (Qd (Qn 9)),Qa (Qv 90) (Qm (Qn 88) (Qn 89) (Qo (Qp (Qq (Qs false))))),Qa (Qv 91) (Qd (Qn 90)),Qb 91 true (Qv 92),Qa (Qv 92) (Qd (Qn 10)),Qb 91 true (Qv 93),Qa (Qv 93) (Qe Qt Go.BinOp.eql (Qn 92) (Qo (Qp (Qq (Qr Qu 0))))),Qa (Qv 94) (Qm (Qn 91) (Qn 93) (Qo (Qp (Qq (Qs false))))),Qa (Qv 95) (Qd (Qn 94)),Qb 95 true (Qv 96),Qa (Qv 96) (Qd (Qn 11)),Qb 95 true (Qv 97),Qa (Qv 97) (Qe Qt Go.BinOp.eql (Qn 96) (Qo (Qp (Qq (Qr Qu 70))))),Qa (Qv 98) (Qm (Qn 95) (Qn 97) (Qo (Qp (Qq (Qs false))))),Qa (Qv 99) (Qd (Qn 98)),Qb 99 true (Qv 100),Qa (Qv 100) (Qd (Qn 13)),Qb 99 true (Qv 101),Qa (Qv 101) (Qe Qt Go.BinOp.eql (Qn 100) (Qo (Qp (Qq (Qr Qu 2))))),Qa (Qv 102) (Qm (Qn 99) (Qn 101) (Qo (Qp (Qq (Qs false))))),Qa (Qv 103) (Qd (Qn 102)),Qb 103 true (Qv 104),Qa (Qv 104) (Qf 2 true (Qn 1)),Qb 103 true (Qv 105),Qa (Qv 105) (Qf 2 true (Qn 1)),Qb 103 true (Qv 106),Qa (Qv 106) (Qh 12 [(Qn 104),(Qn 105)]),Qa (Qv 107) (Qm (Qn 103) (Qn 106) (Qo (Qp (Qq (Qs false))))),Qa (Qv 0) (Qd (Qn 107))]
def f4_c8:MC:=.r0 f4_r8
def f4_c13:MC:=.seq f4_c5 (.seq f4_c6 (.seq f4_c7 (.seq f4_c8 .ret)))
def f4_c16:MC:=.seq f4_c2 (.seq f4_c3 (.seq f4_c4 f4_c13))
def f4_c18:MC:=.seq f4_c0 (.seq f4_c1 f4_c16)
attribute [go_sem] f4_r0 f4_r1 f4_r2 f4_r3 f4_r4 f4_r5 f4_r6 f4_r7 f4_r8
theorem f4_k : KK QP 4 f4 [] f4_c18 [(RV.t 0)] 108 := by refine ⟨func4,?_,?_,?_,?_⟩<;>kernel_rfl
theorem f4_ok : callable QP 4 = true := by kernel_rfl
theorem f4_in (h : GI QP gp [(RV.t 0)] res 108 f4_c18 args) : Does QP gp 4 args res := f4_k.i f4_ok h
def f5_r0:List MO:=[Qa (Qv 1) (MOp.ibox (Qn 0)),Qa (Qv 2) (MOp.alloc [(Qr Qu 0),(D.sl [])])]
def f5_c0:MC:=.r0 f5_r0
def f5_r1:List MO:=[Qa (Qv 9) (Qg 0 (Qn 1)),Qa (Qv 10) (Qf 1 false (Qn 9)),Qa (Qv 11) (MOp.build [(Qr Qu 0),(D.sl [])] [(0,(1,(Qn 10)))]),Qa (Qv 3) (MOp.alloc [(Qr Qu 0),(D.sl [])]),Qa none (Ql 2 (Qn 3) (Qn 11))]
def f5_c1:MC:=.r0 f5_r1
def f5_r2:List MO:=[Qa (Qv 4) (Qd (Qo (Qp (Qq (Qr Qu 0)))))]
def f5_c2:MC:=.r0 f5_r2
def f5_r3:List MO:=[Qa (Qv 12) (Qd (Qn 4)),Qa (Qv 13) (Qg 1 (Qn 1)),Qa (Qv 14) (Qf 1 false (Qn 13)),Qa (Qv 15) (Qk Qt (Qn 14)),Qa (Qv 16) (Qe Qt Go.BinOp.lss (Qn 12) (Qn 15)),Qa (Qv 17) (Qd (Qn 16)),Qb 17 true (Qv 18),Qa (Qv 18) (Qd (Qn 4)),Qb 17 true (Qv 19),Qa (Qv 19) (Qe Qt Go.BinOp.lss (Qn 18) (Qo (Qp (Qq (Qr Qu 201))))),Qa (Qv 20) (Qm (Qn 17) (Qn 19) (Qo (Qp (Qq (Qs false)))))]
def f5_c3:MC:=.r0 f5_r3
def f5_r8:List MO:=[Qa (Qv 23) (Qg 1 (Qn 1)),Qa (Qv 24) (Qf 1 false (Qn 23)),Qa (Qv 25) (Qd (Qn 4)),Qa (Qv 26) (Qj 6 (Qn 24) (Qn 25)),Qa (Qv 27) (Qf 6 true (Qn 26)),Qa (Qv 5) (MOp.alloc [(Qr Qu 0),(Qr Qu 0),(Qr Qu 0),(D.str (ByteArray.mk #[])),(D.sl []),(D.sl [])]),Qa none (Ql 6 (Qn 5) (Qn 27))]
def f5_c8:MC:=.r0 f5_r8
def f5_r9:List MO:=[Qa (Qv 28) (Qg 0 (Qn 5)),Qa (Qv 29) (Qf 1 false (Qn 28)),Qa (Qv 30) (Qg 1 (Qn 5)),Qa (Qv 31) (Qf 3 true (Qn 30)),Qa (Qv 32) (Qh 13 [(Qn 31)]),Qa (Qv 33) (MOp.build [(Qr Qu 0),(Qr Qu 0),(Qr Qu 0),(D.str (ByteArray.mk #[])),(D.sl []),(D.sl [])] [(0,(1,(Qn 29))),(1,(3,(Qn 32)))]),Qa (Qv 6) (MOp.alloc [(Qr Qu 0),(Qr Qu 0),(Qr Qu 0),(D.str (ByteArray.mk #[])),(D.sl []),(D.sl [])]),Qa none (Ql 6 (Qn 6) (Qn 33))]
def f5_c9:MC:=.reg true f5_r9
def f5_r10:List MO:=[Qa (Qv 7) (Qd (Qo (Qp (Qq (Qr Qu 0)))))]
def f5_c10:MC:=.r0 f5_r10
def f5_r11:List MO:=[Qa (Qv 34) (Qd (Qn 7)),Qa (Qv 35) (Qg 4 (Qn 5)),Qa (Qv 36) (Qf 1 false (Qn 35)),Qa (Qv 37) (Qk Qt (Qn 36)),Qa (Qv 38) (Qe Qt Go.BinOp.lss (Qn 34) (Qn 37)),Qa (Qv 39) (Qd (Qn 38)),Qb 39 true (Qv 40),Qa (Qv 40) (Qd (Qn 7)),Qb 39 true (Qv 41),Qa (Qv 41) (Qe Qt Go.BinOp.lss (Qn 40) (Qo (Qp (Qq (Qr Qu 12))))),Qa (Qv 42) (Qm (Qn 39) (Qn 41) (Qo (Qp (Qq (Qs false)))))]
def f5_c11:MC:=.r0 f5_r11
def f5_r16:List MO:=[Qa (Qv 45) (Qg 4 (Qn 6)),Qa (Qv 46) (Qf 1 false (Qn 45)),Qa (Qv 47) (Qg 4 (Qn 5)),Qa (Qv 48) (Qf 1 false (Qn 47)),Qa (Qv 49) (Qd (Qn 7)),Qa (Qv 50) (Qj 3 (Qn 48) (Qn 49)),Qa (Qv 51) (Qf 3 true (Qn 50)),Qa (Qv 52) (Qh 13 [(Qn 51)]),Qa (Qv 53) (MOp.bslice 3 [(Qr Qu 0),(Qr Qu 0),(D.str (ByteArray.mk #[]))] 1 [(0,(Qn 52))]),Qa (Qv 54) (MOp.app 37 3 32 (Qn 46) (Qn 53)),Qa (Qv 55) (Qg 4 (Qn 6)),Qa none (Ql 1 (Qn 55) (Qn 54))]
def f5_c16:MC:=.reg true f5_r16
def f5_r18:List MO:=[Qa (Qv 43) (Qd (Qn 7)),Qa (Qv 44) (Qe Qt Go.BinOp.add (Qn 43) (Qo (Qp (Qq (Qr Qu 1))))),Qa (Qv 7) (Qd (Qn 44))]
def f5_c18:MC:=.r0 f5_r18
def f5_c23:MC:=.seq f5_c10 (.blk 2 (.loop (.seq (.seq f5_c11 (.cond (Qn 42) .skip (MC.exit 2))) (.seq (.blk 3 f5_c16) f5_c18))))
def f5_r24:List MO:=[Qa (Qv 8) (Qd (Qo (Qp (Qq (Qr Qu 0)))))]
def f5_c24:MC:=.r0 f5_r24
def f5_r25:List MO:=[Qa (Qv 56) (Qd (Qn 8)),Qa (Qv 57) (Qg 5 (Qn 5)),Qa (Qv 58) (Qf 1 false (Qn 57)),Qa (Qv 59) (Qk Qt (Qn 58)),Qa (Qv 60) (Qe Qt Go.BinOp.lss (Qn 56) (Qn 59)),Qa (Qv 61) (Qd (Qn 60)),Qb 61 true (Qv 62),Qa (Qv 62) (Qd (Qn 8)),Qb 61 true (Qv 63),Qa (Qv 63) (Qe Qt Go.BinOp.lss (Qn 62) (Qo (Qp (Qq (Qr Qu 12))))),Qa (Qv 64) (Qm (Qn 61) (Qn 63) (Qo (Qp (Qq (Qs false)))))]
def f5_c25:MC:=.r0 f5_r25
def f5_r30:List MO:=[Qa (Qv 67) (Qg 5 (Qn 6)),Qa (Qv 68) (Qf 1 false (Qn 67)),Qa (Qv 69) (Qg 5 (Qn 5)),Qa (Qv 70) (Qf 1 false (Qn 69)),Qa (Qv 71) (Qd (Qn 8)),Qa (Qv 72) (Qj 1 (Qn 70) (Qn 71)),Qa (Qv 73) (Qf 1 false (Qn 72)),Qa (Qv 74) (MOp.bslice 1 [(Qr Qu 0)] 1 [(0,(Qn 73))]),Qa (Qv 75) (MOp.app 3 1 8 (Qn 68) (Qn 74)),Qa (Qv 76) (Qg 5 (Qn 6)),Qa none (Ql 1 (Qn 76) (Qn 75))]
def f5_c30:MC:=.reg true f5_r30
def f5_r32:List MO:=[Qa (Qv 65) (Qd (Qn 8)),Qa (Qv 66) (Qe Qt Go.BinOp.add (Qn 65) (Qo (Qp (Qq (Qr Qu 1))))),Qa (Qv 8) (Qd (Qn 66))]
def f5_c32:MC:=.r0 f5_r32
def f5_c37:MC:=.seq f5_c24 (.blk 4 (.loop (.seq (.seq f5_c25 (.cond (Qn 64) .skip (MC.exit 4))) (.seq (.blk 5 f5_c30) f5_c32))))
def f5_r38:List MO:=[Qa (Qv 77) (Qg 1 (Qn 3)),Qa (Qv 78) (Qf 1 false (Qn 77)),Qa (Qv 79) (Qf 6 true (Qn 6)),Qa (Qv 80) (MOp.bslice 6 [(Qr Qu 0),(Qr Qu 0),(Qr Qu 0),(D.str (ByteArray.mk #[])),(D.sl []),(D.sl [])] 1 [(0,(Qn 79))]),Qa (Qv 81) (MOp.app 39 6 88 (Qn 78) (Qn 80)),Qa (Qv 82) (Qg 1 (Qn 3)),Qa none (Ql 1 (Qn 82) (Qn 81))]
def f5_c38:MC:=.r0 f5_r38
def f5_c41:MC:=.seq f5_c9 (.seq f5_c23 (.seq f5_c37 f5_c38))
def f5_r44:List MO:=[Qa (Qv 21) (Qd (Qn 4)),Qa (Qv 22) (Qe Qt Go.BinOp.add (Qn 21) (Qo (Qp (Qq (Qr Qu 1))))),Qa (Qv 4) (Qd (Qn 22))]
def f5_c44:MC:=.r0 f5_r44
def f5_c46:MC:=.seq (.seq f5_c3 (.cond (Qn 20) .skip (MC.exit 0))) (.seq (.blk 1 (.seq f5_c8 f5_c41)) f5_c44)
def f5_r50:List MO:=[Qa (Qv 83) (Qf 2 true (Qn 3)),Qa none (Ql 2 (Qn 2) (Qn 83))]
def f5_c50:MC:=.r0 f5_r50
def f5_c54:MC:=.seq f5_c1 (.seq (.seq f5_c2 (.blk 0 (.loop f5_c46))) (.seq f5_c50 .ret))
def f5_c55:MC:=.seq f5_c0 f5_c54
attribute [go_sem] f5_r0 f5_r1 f5_r2 f5_r3 f5_r8 f5_r9 f5_r10 f5_r11 f5_r16 f5_r18 f5_r24 f5_r25 f5_r30 f5_r32 f5_r38 f5_r44 f5_r50
theorem f5_k : KK QP 5 f5 [1] f5_c55 [(RV.cell 2 2 true)] 84 := by refine ⟨func5,?_,?_,?_,?_⟩<;>kernel_rfl
theorem f5_ok : callable QP 5 = true := by kernel_rfl
theorem f5_tri (h : GT QP gp [(RV.cell 2 2 true)] pre R 84 f5_c55 args) : Tri QP gp 5 args pre R := f5_k.t h
def f6_r0:List MO:=[Qa (Qv 1) (MOp.ibox (Qn 0)),Qa (Qv 2) (Qd (Qo (Qp (Qq (Qr Qu 0))))),Qa (Qv 3) (Qd (Qo (Qp (Qq (Qr Qu 0)))))]
def f6_c0:MC:=.r0 f6_r0
def f6_r1:List MO:=[Qa (Qv 4) (Qf 2 true (Qn 1)),Qa (Qv 5) (Qh 15 [(Qn 4)]),Qa (Qv 6) (Qh 14 [(Qn 5)]),Qa (Qv 7) (Qi (Qn 6) 0),Qa (Qv 8) (Qi (Qn 6) 1),Qa (Qv 2) (Qd (Qn 7)),Qa (Qv 3) (Qd (Qn 8))]
def f6_c1:MC:=.r0 f6_r1
def f6_c4:MC:=.seq f6_c0 (.seq f6_c1 .ret)
attribute [go_sem] f6_r0 f6_r1
theorem f6_k : KK QP 6 f6 [1] f6_c4 [(RV.t 2),(RV.t 3)] 9 := by refine ⟨func6,?_,?_,?_,?_⟩<;>kernel_rfl
theorem f6_ok : callable QP 6 = true := by kernel_rfl
theorem f6_in (h : GI QP gp [(RV.t 2),(RV.t 3)] res 9 f6_c4 args) : Does QP gp 6 args res := f6_k.i f6_ok h
def f7_r0:List MO:=[Qa (Qv 2) (MOp.ibox (Qn 0)),Qa (Qv 4) (Qd (Qo (Qp A.nil))),Qa (Qv 5) (Qd (Qo (Qp (Qq (Qr Qu 0)))))]
def f7_c0:MC:=.r0 f7_r0
def f7_r1:List MO:=[Qa (Qv 12) (Qf 2 true (Qn 2)),Qa (Qv 13) (Qd (Qn 1)),Qa (Qv 14) (Qh 16 [(Qn 12),(Qn 13)]),Qa (Qv 11) (Qd (Qn 14)),Qa (Qv 15) (Qi (Qn 11) 0),Qa (Qv 16) (Qi (Qn 11) 1),Qa (Qv 6) (MOp.alloc [(Qr Qu 0),(Qr Qu 0),(Qr Qu 0),(D.str (ByteArray.mk #[])),(D.sl []),(D.sl []),(Qr Qu 0)]),Qa none (Ql 7 (Qn 6) (Qn 15)),Qa (Qv 7) (Qd (Qn 16))]
def f7_c1:MC:=.r0 f7_r1
def f7_r2:List MO:=[Qa (Qv 17) (Qd (Qn 7)),Qa (Qv 18) (Qe Qt Go.BinOp.eql (Qn 17) (Qo (Qp (Qq (Qr Qu 0))))),Qa (Qv 19) (Qd (Qn 18)),Qb 19 true (Qv 20),Qa (Qv 20) (Qg 0 (Qn 6)),Qb 19 true (Qv 21),Qa (Qv 21) (Qg 0 (Qn 20)),Qb 19 true (Qv 22),Qa (Qv 22) (Qf 1 false (Qn 21)),Qb 19 true (Qv 23),Qa (Qv 23) (Qe Qt Go.BinOp.eql (Qn 22) (Qo (Qp (Qq (Qr Qu 1))))),Qa (Qv 24) (Qm (Qn 19) (Qn 23) (Qo (Qp (Qq (Qs false)))))]
def f7_c2:MC:=.r0 f7_r2
def f7_r3:List MO:=[Qa (Qv 25) (Qg 0 (Qn 6)),Qa (Qv 26) (Qg 5 (Qn 25)),Qa (Qv 27) (Qf 1 false (Qn 26)),Qa (Qv 28) (Qh 17 [(Qn 27)]),Qa (Qv 29) (Qd (Qn 7)),Qa (Qv 4) (Qd (Qn 28)),Qa (Qv 5) (Qd (Qn 29))]
def f7_c3:MC:=.r0 f7_r3
def f7_r9:List MO:=[Qa (Qv 8) (Qd (Qo (Qp A.nil)))]
def f7_c9:MC:=.r0 f7_r9
def f7_r10:List MO:=[Qa (Qv 30) (Qf 7 true (Qn 6)),Qa (Qv 31) (Qh 18 [(Qn 30)]),Qa (Qv 32) (Qk Qt (Qn 31)),Qa (Qv 33) (Qd (Qo (Qp (Qq (Qr Qu 0)))))]
def f7_c10:MC:=.r0 f7_r10
def f7_r11:List MO:=[Qa (Qv 34) (Qe Qt Go.BinOp.lss (Qn 33) (Qn 32))]
def f7_c11:MC:=.r0 f7_r11
def f7_r15:List MO:=[Qa (Qv 35) (Qj 4 (Qn 31) (Qn 33)),Qa (Qv 36) (Qf 4 true (Qn 35)),Qa (Qv 10) (MOp.alloc [(Qr Qu 0),(Qr Qu 0),(D.str (ByteArray.mk #[])),(Qr Qu 0)]),Qa none (Ql 4 (Qn 10) (Qn 36))]
def f7_c15:MC:=.r0 f7_r15
def f7_r16:List MO:=[Qa (Qv 37) (Qd (Qn 8)),Qa (Qv 38) (Qg 3 (Qn 10)),Qa (Qv 39) (Qf 1 false (Qn 38)),Qa (Qv 40) (MOp.bslice 1 [(Qr Qu 0)] 1 [(0,(Qn 39))]),Qa (Qv 41) (MOp.app 3 1 8 (Qn 37) (Qn 40)),Qa (Qv 8) (Qd (Qn 41))]
def f7_c16:MC:=.r0 f7_r16
def f7_r19:List MO:=[Qa (Qv 42) (Qe Qt Go.BinOp.add (Qn 33) (Qo (Qp (Qq (Qr Qu 1))))),Qa (Qv 33) (Qd (Qn 42))]
def f7_c19:MC:=.r0 f7_r19
def f7_c22:MC:=.seq f7_c11 (.seq (.cond (Qn 34) .skip (MC.exit 0)) (.seq (.blk 1 (.seq f7_c15 f7_c16)) f7_c19))
def f7_r26:List MO:=[Qa (Qv 43) (Qd (Qn 8)),Qa (Qv 44) (Qd (Qn 7)),Qa (Qv 4) (Qd (Qn 43)),Qa (Qv 5) (Qd (Qn 44))]
def f7_c26:MC:=.r0 f7_r26
def f7_c30:MC:=.seq f7_c9 (.seq (.seq f7_c10 (.blk 0 (.loop f7_c22))) (.seq f7_c26 .ret))
def f7_c32:MC:=.seq f7_c1 (.seq (.seq f7_c2 (.cond (Qn 24) (.seq f7_c3 .ret) .skip)) f7_c30)
def f7_c33:MC:=.seq f7_c0 f7_c32
theorem f7_k : KK QP 7 f7 [2] f7_c33 [(RV.t 4),(RV.t 5)] 45 := by refine ⟨func7,?_,?_,?_,?_⟩<;>kernel_rfl
theorem f7_ok : callable QP 7 = true := by kernel_rfl
theorem f7_in (h : GI QP gp [(RV.t 4),(RV.t 5)] res 45 f7_c33 args) : Does QP gp 7 args res := f7_k.i f7_ok h
theorem f7_tri (h : GT QP gp [(RV.t 4),(RV.t 5)] pre R 45 f7_c33 args) : Tri QP gp 7 args pre R := f7_k.t h
def f8_r0:List MO:=[Qa (Qv 2) (MOp.ibox (Qn 0)),Qa (Qv 4) (Qd (Qo (Qp A.nil))),Qa (Qv 5) (Qd (Qo (Qp (Qq (Qr Qu 0)))))]
def f8_c0:MC:=.r0 f8_r0
def f8_r1:List MO:=[Qa (Qv 12) (Qf 2 true (Qn 2)),Qa (Qv 13) (Qd (Qn 1)),Qa (Qv 14) (Qh 16 [(Qn 12),(Qn 13)]),Qa (Qv 11) (Qd (Qn 14)),Qa (Qv 15) (Qi (Qn 11) 0),Qa (Qv 16) (Qi (Qn 11) 1),Qa (Qv 6) (MOp.alloc [(Qr Qu 0),(Qr Qu 0),(Qr Qu 0),(D.str (ByteArray.mk #[])),(D.sl []),(D.sl []),(Qr Qu 0)]),Qa none (Ql 7 (Qn 6) (Qn 15)),Qa (Qv 7) (Qd (Qn 16))]
def f8_c1:MC:=.r0 f8_r1
def f8_r2:List MO:=[Qa (Qv 8) (Qd (Qo (Qp A.nil)))]
def f8_c2:MC:=.r0 f8_r2
def f8_r3:List MO:=[Qa (Qv 17) (Qf 7 true (Qn 6)),Qa (Qv 18) (Qh 18 [(Qn 17)]),Qa (Qv 19) (Qk Qt (Qn 18)),Qa (Qv 20) (Qd (Qo (Qp (Qq (Qr Qu 0)))))]
def f8_c3:MC:=.r0 f8_r3
def f8_r4:List MO:=[Qa (Qv 21) (Qe Qt Go.BinOp.lss (Qn 20) (Qn 19))]
def f8_c4:MC:=.r0 f8_r4
def f8_r8:List MO:=[Qa (Qv 22) (Qj 4 (Qn 18) (Qn 20)),Qa (Qv 23) (Qf 4 true (Qn 22)),Qa (Qv 10) (MOp.alloc [(Qr Qu 0),(Qr Qu 0),(D.str (ByteArray.mk #[])),(Qr Qu 0)]),Qa none (Ql 4 (Qn 10) (Qn 23))]
def f8_c8:MC:=.r0 f8_r8
def f8_r9:List MO:=[Qa (Qv 24) (Qd (Qn 8)),Qa (Qv 25) (Qg 0 (Qn 10)),Qa (Qv 26) (Qf 3 true (Qn 25)),Qa (Qv 27) (MOp.bslice 3 [(Qr Qu 0),(Qr Qu 0),(D.str (ByteArray.mk #[]))] 1 [(0,(Qn 26))]),Qa (Qv 28) (MOp.app 37 3 32 (Qn 24) (Qn 27)),Qa (Qv 8) (Qd (Qn 28))]
def f8_c9:MC:=.r0 f8_r9
def f8_r12:List MO:=[Qa (Qv 29) (Qe Qt Go.BinOp.add (Qn 20) (Qo (Qp (Qq (Qr Qu 1))))),Qa (Qv 20) (Qd (Qn 29))]
def f8_c12:MC:=.r0 f8_r12
def f8_c15:MC:=.seq f8_c4 (.seq (.cond (Qn 21) .skip (MC.exit 0)) (.seq (.blk 1 (.seq f8_c8 f8_c9)) f8_c12))
def f8_r19:List MO:=[Qa (Qv 30) (Qd (Qn 8)),Qa (Qv 31) (Qd (Qn 7)),Qa (Qv 4) (Qd (Qn 30)),Qa (Qv 5) (Qd (Qn 31))]
def f8_c19:MC:=.r0 f8_r19
def f8_c23:MC:=.seq f8_c2 (.seq (.seq f8_c3 (.blk 0 (.loop f8_c15))) (.seq f8_c19 .ret))
def f8_c25:MC:=.seq f8_c0 (.seq f8_c1 f8_c23)
theorem f8_k : KK QP 8 f8 [2] f8_c25 [(RV.t 4),(RV.t 5)] 32 := by refine ⟨func8,?_,?_,?_,?_⟩<;>kernel_rfl
theorem f8_ok : callable QP 8 = true := by kernel_rfl
theorem f8_in (h : GI QP gp [(RV.t 4),(RV.t 5)] res 32 f8_c25 args) : Does QP gp 8 args res := f8_k.i f8_ok h
theorem f8_tri (h : GT QP gp [(RV.t 4),(RV.t 5)] pre R 32 f8_c25 args) : Tri QP gp 8 args pre R := f8_k.t h
def f9_r0:List MO:=[Qa (Qv 4) (Qd (Qo (Qp (Qq (Qs false)))))]
def f9_c0:MC:=.r0 f9_r0
def f9_r1:List MO:=[Qa (Qv 6) (Qd (Qn 0)),Qa (Qv 7) (Qk Qt (Qn 6)),Qa (Qv 8) (Qd (Qn 1)),Qa (Qv 9) (Qk Qt (Qn 8)),Qa (Qv 10) (Qe Qt Go.BinOp.neq (Qn 7) (Qn 9))]
def f9_c1:MC:=.r0 f9_r1
def f9_r2:List MO:=[Qa (Qv 4) (Qd (Qo (Qp (Qq (Qs false)))))]
def f9_c2:MC:=.r0 f9_r2
def f9_r8:List MO:=[Qa (Qv 5) (Qd (Qo (Qp (Qq (Qr Qu 0)))))]
def f9_c8:MC:=.r0 f9_r8
def f9_r9:List MO:=[Qa (Qv 11) (Qd (Qn 5)),Qa (Qv 12) (Qd (Qn 0)),Qa (Qv 13) (Qk Qt (Qn 12)),Qa (Qv 14) (Qe Qt Go.BinOp.lss (Qn 11) (Qn 13))]
def f9_c9:MC:=.r0 f9_r9
def f9_r14:List MO:=[Qa (Qv 17) (Qd (Qn 0)),Qa (Qv 18) (Qd (Qn 5)),Qa (Qv 19) (Qj 1 (Qn 17) (Qn 18)),Qa (Qv 20) (Qf 1 false (Qn 19)),Qa (Qv 21) (Qd (Qn 1)),Qa (Qv 22) (Qd (Qn 5)),Qa (Qv 23) (Qj 1 (Qn 21) (Qn 22)),Qa (Qv 24) (Qf 1 false (Qn 23)),Qa (Qv 25) (Qe Qt Go.BinOp.neq (Qn 20) (Qn 24))]
def f9_c14:MC:=.reg true f9_r14
def f9_r15:List MO:=[Qa (Qv 4) (Qd (Qo (Qp (Qq (Qs false)))))]
def f9_c15:MC:=.r0 f9_r15
def f9_r22:List MO:=[Qa (Qv 15) (Qd (Qn 5)),Qa (Qv 16) (Qe Qt Go.BinOp.add (Qn 15) (Qo (Qp (Qq (Qr Qu 1))))),Qa (Qv 5) (Qd (Qn 16))]
def f9_c22:MC:=.r0 f9_r22
def f9_c24:MC:=.seq (.seq f9_c9 (.cond (Qn 14) .skip (MC.exit 0))) (.seq (.blk 1 (.seq f9_c14 (.cond (Qn 25) (.seq f9_c15 .ret) .skip))) f9_c22)
def f9_r28:List MO:=[Qa (Qv 4) (Qd (Qo (Qp (Qq (Qs true)))))]
def f9_c28:MC:=.r0 f9_r28
def f9_c32:MC:=.seq (.seq f9_c1 (.cond (Qn 10) (.seq f9_c2 .ret) .skip)) (.seq (.seq f9_c8 (.blk 0 (.loop f9_c24))) (.seq f9_c28 .ret))
def f9_c33:MC:=.seq f9_c0 f9_c32
attribute [go_sem] f9_r0 f9_r1 f9_r2 f9_r8 f9_r9 f9_r14 f9_r15 f9_r22 f9_r28
theorem f9_k : KK QP 9 f9 [] f9_c33 [(RV.t 4)] 26 := by refine ⟨func9,?_,?_,?_,?_⟩<;>kernel_rfl
theorem f9_ok : callable QP 9 = true := by kernel_rfl
theorem f9_in (h : GI QP gp [(RV.t 4)] res 26 f9_c33 args) : Does QP gp 9 args res := f9_k.i f9_ok h
def f10_r0:List MO:=[Qa (Qv 4) (Qd (Qo (Qp (Qq (Qs false)))))]
def f10_c0:MC:=.r0 f10_r0
def f10_r1:List MO:=[Qa (Qv 6) (Qd (Qn 0)),Qa (Qv 7) (Qk Qt (Qn 6)),Qa (Qv 8) (Qd (Qn 1)),Qa (Qv 9) (Qk Qt (Qn 8)),Qa (Qv 10) (Qe Qt Go.BinOp.neq (Qn 7) (Qn 9))]
def f10_c1:MC:=.r0 f10_r1
def f10_r2:List MO:=[Qa (Qv 4) (Qd (Qo (Qp (Qq (Qs false)))))]
def f10_c2:MC:=.r0 f10_r2
def f10_r8:List MO:=[Qa (Qv 5) (Qd (Qo (Qp (Qq (Qr Qu 0)))))]
def f10_c8:MC:=.r0 f10_r8
def f10_r9:List MO:=[Qa (Qv 11) (Qd (Qn 5)),Qa (Qv 12) (Qd (Qn 0)),Qa (Qv 13) (Qk Qt (Qn 12)),Qa (Qv 14) (Qe Qt Go.BinOp.lss (Qn 11) (Qn 13))]
def f10_c9:MC:=.r0 f10_r9
def f10_r14:List MO:=[Qa (Qv 17) (Qd (Qn 0)),Qa (Qv 18) (Qd (Qn 5)),Qa (Qv 19) (Qj 3 (Qn 17) (Qn 18)),Qa (Qv 20) (Qf 3 true (Qn 19)),Qa (Qv 21) (Qd (Qn 1)),Qa (Qv 22) (Qd (Qn 5)),Qa (Qv 23) (Qj 3 (Qn 21) (Qn 22)),Qa (Qv 24) (Qf 3 true (Qn 23)),Qa (Qv 25) (MOp.eqs true [Qt,Qt,Leaf.s] (Qn 20) (Qn 24))]
def f10_c14:MC:=.reg true f10_r14
def f10_r15:List MO:=[Qa (Qv 4) (Qd (Qo (Qp (Qq (Qs false)))))]
def f10_c15:MC:=.r0 f10_r15
def f10_r22:List MO:=[Qa (Qv 15) (Qd (Qn 5)),Qa (Qv 16) (Qe Qt Go.BinOp.add (Qn 15) (Qo (Qp (Qq (Qr Qu 1))))),Qa (Qv 5) (Qd (Qn 16))]
def f10_c22:MC:=.r0 f10_r22
def f10_c24:MC:=.seq (.seq f10_c9 (.cond (Qn 14) .skip (MC.exit 0))) (.seq (.blk 1 (.seq f10_c14 (.cond (Qn 25) (.seq f10_c15 .ret) .skip))) f10_c22)
def f10_r28:List MO:=[Qa (Qv 4) (Qd (Qo (Qp (Qq (Qs true)))))]
def f10_c28:MC:=.r0 f10_r28
def f10_c32:MC:=.seq (.seq f10_c1 (.cond (Qn 10) (.seq f10_c2 .ret) .skip)) (.seq (.seq f10_c8 (.blk 0 (.loop f10_c24))) (.seq f10_c28 .ret))
def f10_c33:MC:=.seq f10_c0 f10_c32
attribute [go_sem] f10_r0 f10_r1 f10_r2 f10_r8 f10_r9 f10_r14 f10_r15 f10_r22 f10_r28
theorem f10_k : KK QP 10 f10 [] f10_c33 [(RV.t 4)] 26 := by refine ⟨func10,?_,?_,?_,?_⟩<;>kernel_rfl
theorem f10_ok : callable QP 10 = true := by kernel_rfl
theorem f10_in (h : GI QP gp [(RV.t 4)] res 26 f10_c33 args) : Does QP gp 10 args res := f10_k.i f10_ok h
def f11_r0:List MO:=[Qa (Qv 3) (MOp.ibox (Qn 0)),Qa (Qv 5) (MOp.ibox (Qn 2)),Qa (Qv 6) (Qd (Qo (Qp (Qq (Qr Qu 0))))),Qa (Qv 7) (Qd (Qo (Qp (Qq (Qs false)))))]
def f11_c0:MC:=.r0 f11_r0
def f11_r1:List MO:=[Qa (Qv 13) (Qf 2 true (Qn 3)),Qa (Qv 14) (Qd (Qn 1)),Qa (Qv 15) (Qh 16 [(Qn 13),(Qn 14)]),Qa (Qv 12) (Qd (Qn 15)),Qa (Qv 16) (Qi (Qn 12) 0),Qa (Qv 17) (Qi (Qn 12) 1),Qa (Qv 8) (MOp.alloc [(Qr Qu 0),(Qr Qu 0),(Qr Qu 0),(D.str (ByteArray.mk #[])),(D.sl []),(D.sl []),(Qr Qu 0)]),Qa none (Ql 7 (Qn 8) (Qn 16)),Qa (Qv 9) (Qd (Qn 17))]
def f11_c1:MC:=.r0 f11_r1
def f11_r2:List MO:=[Qa (Qv 18) (Qd (Qn 9)),Qa (Qv 19) (Qe Qt Go.BinOp.neq (Qn 18) (Qo (Qp (Qq (Qr Qu 0))))),Qa (Qv 20) (Qd (Qn 19)),Qb 20 false (Qv 21),Qa (Qv 21) (Qg 0 (Qn 8)),Qb 20 false (Qv 22),Qa (Qv 22) (Qg 0 (Qn 21)),Qb 20 false (Qv 23),Qa (Qv 23) (Qf 1 false (Qn 22)),Qb 20 false (Qv 24),Qa (Qv 24) (Qe Qt Go.BinOp.neq (Qn 23) (Qo (Qp (Qq (Qr Qu 2))))),Qa (Qv 25) (Qm (Qn 20) (Qo (Qp (Qq (Qs true)))) (Qn 24))]
def f11_c2:MC:=.r0 f11_r2
def f11_r3:List MO:=[Qa (Qv 6) (Qd (Qo (Qp (Qq (Qr Qu 0))))),Qa (Qv 7) (Qd (Qo (Qp (Qq (Qs false)))))]
def f11_c3:MC:=.r0 f11_r3
def f11_r9:List MO:=[Qa (Qv 26) (Qg 0 (Qn 8)),Qa (Qv 27) (Qg 4 (Qn 26)),Qa (Qv 28) (Qf 1 false (Qn 27)),Qa (Qv 29) (Qg 0 (Qn 8)),Qa (Qv 30) (Qg 4 (Qn 29)),Qa (Qv 31) (Qf 1 false (Qn 30)),Qa (Qv 32) (Qk Qt (Qn 31)),Qa (Qv 33) (Qg 0 (Qn 8)),Qa (Qv 34) (Qg 5 (Qn 33)),Qa (Qv 35) (Qf 1 false (Qn 34)),Qa (Qv 36) (Qk Qt (Qn 35)),Qa (Qv 37) (MOp.min (Qn 32) (Qn 36)),Qa (Qv 38) (MOp.slc 3 (Qn 28) none (Qv (Qn 37))),Qa (Qv 39) (Qk Qt (Qn 38)),Qa (Qv 40) (Qd (Qo (Qp (Qq (Qr Qu 0)))))]
def f11_c9:MC:=.r0 f11_r9
def f11_r10:List MO:=[Qa (Qv 41) (Qe Qt Go.BinOp.lss (Qn 40) (Qn 39))]
def f11_c10:MC:=.r0 f11_r10
def f11_r14:List MO:=[Qa (Qv 42) (Qd (Qn 40)),Qa (Qv 43) (Qj 3 (Qn 38) (Qn 40)),Qa (Qv 44) (Qf 3 true (Qn 43)),Qa (Qv 11) (MOp.alloc [(Qr Qu 0),(Qr Qu 0),(D.str (ByteArray.mk #[]))]),Qa (Qv 10) (Qd (Qn 42)),Qa none (Ql 3 (Qn 11) (Qn 44))]
def f11_c14:MC:=.r0 f11_r14
def f11_r15:List MO:=[Qa (Qv 45) (Qf 3 true (Qn 11)),Qa (Qv 46) (Qf 3 true (Qn 5)),Qa (Qv 47) (MOp.eqs false [Qt,Qt,Leaf.s] (Qn 45) (Qn 46))]
def f11_c15:MC:=.r0 f11_r15
def f11_r16:List MO:=[Qa (Qv 48) (Qg 0 (Qn 8)),Qa (Qv 49) (Qg 5 (Qn 48)),Qa (Qv 50) (Qf 1 false (Qn 49)),Qa (Qv 51) (Qd (Qn 10)),Qa (Qv 52) (Qj 1 (Qn 50) (Qn 51)),Qa (Qv 53) (Qf 1 false (Qn 52)),Qa (Qv 6) (Qd (Qn 53)),Qa (Qv 7) (Qd (Qo (Qp (Qq (Qs true)))))]
def f11_c16:MC:=.r0 f11_r16
def f11_r24:List MO:=[Qa (Qv 54) (Qe Qt Go.BinOp.add (Qn 40) (Qo (Qp (Qq (Qr Qu 1))))),Qa (Qv 40) (Qd (Qn 54))]
def f11_c24:MC:=.r0 f11_r24
def f11_c25:MC:=.seq (.blk 1 (.seq f11_c14 (.seq f11_c15 (.cond (Qn 47) (.seq f11_c16 .ret) .skip)))) f11_c24
def f11_r31:List MO:=[Qa (Qv 6) (Qd (Qo (Qp (Qq (Qr Qu 0))))),Qa (Qv 7) (Qd (Qo (Qp (Qq (Qs false)))))]
def f11_c31:MC:=.r0 f11_r31
def f11_c34:MC:=.seq (.seq f11_c9 (.blk 0 (.loop (.seq f11_c10 (.seq (.cond (Qn 41) .skip (MC.exit 0)) f11_c25))))) (.seq f11_c31 .ret)
def f11_c36:MC:=.seq f11_c1 (.seq (.seq f11_c2 (.cond (Qn 25) (.seq f11_c3 .ret) .skip)) f11_c34)
def f11_c37:MC:=.seq f11_c0 f11_c36
attribute [go_sem] f11_r0 f11_r1 f11_r2 f11_r3 f11_r9 f11_r10 f11_r14 f11_r15 f11_r16 f11_r24 f11_r31
theorem f11_k : KK QP 11 f11 [3,5] f11_c37 [(RV.t 6),(RV.t 7)] 55 := by refine ⟨func11,?_,?_,?_,?_⟩<;>kernel_rfl
theorem f11_ok : callable QP 11 = true := by kernel_rfl
theorem f11_in (h : GI QP gp [(RV.t 6),(RV.t 7)] res 55 f11_c37 args) : Does QP gp 11 args res := f11_k.i f11_ok h
def f12_r0:List MO:=[Qa (Qv 2) (MOp.ibox (Qn 0)),Qa (Qv 3) (MOp.ibox (Qn 1)),Qa (Qv 4) (Qd (Qo (Qp (Qq (Qs false)))))]
def f12_c0:MC:=.r0 f12_r0
def f12_r1:List MO:=[Qa (Qv 5) (Qd (Qo (Qp (Qq (D.fn (Go.Fn.func 19) [])))))]
def f12_c1:MC:=.r0 f12_r1
def f12_r2:List MO:=[Qa (Qv 6) (Qg 0 (Qn 2)),Qa (Qv 7) (Qf 1 false (Qn 6)),Qa (Qv 8) (Qg 0 (Qn 3)),Qa (Qv 9) (Qf 1 false (Qn 8)),Qa (Qv 10) (Qe Qt Go.BinOp.eql (Qn 7) (Qn 9)),Qa (Qv 11) (Qd (Qn 10)),Qb 11 true (Qv 12),Qa (Qv 12) (Qg 1 (Qn 2)),Qb 11 true (Qv 13),Qa (Qv 13) (Qf 1 false (Qn 12)),Qb 11 true (Qv 14),Qa (Qv 14) (Qg 1 (Qn 3)),Qb 11 true (Qv 15),Qa (Qv 15) (Qf 1 false (Qn 14)),Qb 11 true (Qv 16),Qa (Qv 16) (Qd (Qn 5)),Qb 11 true (Qv 17),Qa (Qv 17) (Qh 22 [(Qn 13),(Qn 15),(Qn 16)]),Qa (Qv 18) (Qm (Qn 11) (Qn 17) (Qo (Qp (Qq (Qs false))))),Qa (Qv 4) (Qd (Qn 18))]
def f12_c2:MC:=.r0 f12_r2
def f12_c6:MC:=.seq f12_c0 (.seq f12_c1 (.seq f12_c2 .ret))
attribute [go_sem] f12_r0 f12_r1 f12_r2
theorem f12_k : KK QP 12 f12 [2,3] f12_c6 [(RV.t 4)] 19 := by refine ⟨func12,?_,?_,?_,?_⟩<;>kernel_rfl
theorem f12_ok : callable QP 12 = true := by kernel_rfl
theorem f12_in (h : GI QP gp [(RV.t 4)] res 19 f12_c6 args) : Does QP gp 12 args res := f12_k.i f12_ok h
def f13_r0:List MO:=[Qa (Qv 1) (MOp.ibox (Qn 0)),Qa (Qv 2) (MOp.alloc [(Qr Qu 0),(Qr Qu 0),(D.str (ByteArray.mk #[]))])]
def f13_c0:MC:=.r0 f13_r0
def f13_r1:List MO:=[Qa (Qv 3) (Qg 0 (Qn 1)),Qa (Qv 4) (Qf 1 false (Qn 3)),Qa (Qv 5) (Qg 1 (Qn 1)),Qa (Qv 6) (Qf 1 false (Qn 5)),Qa (Qv 7) (Qg 2 (Qn 1)),Qa (Qv 8) (Qf 1 false (Qn 7)),Qa (Qv 9) (Qh 23 [(Qn 8)]),Qa (Qv 10) (MOp.build [(Qr Qu 0),(Qr Qu 0),(D.str (ByteArray.mk #[]))] [(0,(1,(Qn 4))),(1,(1,(Qn 6))),(2,(1,(Qn 9)))]),Qa none (Ql 3 (Qn 2) (Qn 10))]
def f13_c1:MC:=.reg true f13_r1
def f13_c4:MC:=.seq f13_c0 (.seq f13_c1 .ret)
attribute [go_sem] f13_r0 f13_r1
theorem f13_k : KK QP 13 f13 [1] f13_c4 [(RV.cell 2 3 true)] 11 := by refine ⟨func13,?_,?_,?_,?_⟩<;>kernel_rfl
theorem f13_ok : callable QP 13 = true := by kernel_rfl
theorem f13_in (h : GI QP gp [(RV.cell 2 3 true)] res 11 f13_c4 args) : Does QP gp 13 args res := f13_k.i f13_ok h
def f14_r0:List MO:=[Qa (Qv 2) (Qd (Qo (Qp (Qq (Qr Qu 0))))),Qa (Qv 3) (Qd (Qo (Qp (Qq (Qr Qu 0)))))]
def f14_c0:MC:=.r0 f14_r0
def f14_r1:List MO:=[Qa (Qv 4) (MOp.alloc [(Qr Qu 0),(Qr Qu 0)])]
def f14_c1:MC:=.r0 f14_r1
def f14_r2:List MO:=[Qa (Qv 5) (Qd (Qn 0)),Qa (Qv 6) (MOp.mkI 66 (Qn 4)),Qa (Qv 7) (Qh 24 [(Qn 5),(Qn 6)])]
def f14_c2:MC:=.r0 f14_r2
def f14_r3:List MO:=[Qa (Qv 8) (Qg 0 (Qn 4)),Qa (Qv 9) (Qf 1 false (Qn 8)),Qa (Qv 10) (Qg 1 (Qn 4)),Qa (Qv 11) (Qf 1 false (Qn 10)),Qa (Qv 2) (Qd (Qn 9)),Qa (Qv 3) (Qd (Qn 11))]
def f14_c3:MC:=.reg true f14_r3
def f14_r9:List MO:=[Qa (Qv 2) (Qd (Qo (Qp (Qq (Qr Qu 0))))),Qa (Qv 3) (Qd (Qo (Qp (Qq (Qr Qu 0)))))]
def f14_c9:MC:=.r0 f14_r9
def f14_c13:MC:=.seq f14_c1 (.seq (.seq f14_c2 (.cond (Qn 7) (.seq f14_c3 .ret) .skip)) (.seq f14_c9 .ret))
def f14_c14:MC:=.seq f14_c0 f14_c13
attribute [go_sem] f14_r0 f14_r1 f14_r2 f14_r3 f14_r9
theorem f14_k : KK QP 14 f14 [] f14_c14 [(RV.t 2),(RV.t 3)] 12 := by refine ⟨func14,?_,?_,?_,?_⟩<;>kernel_rfl
theorem f14_ok : callable QP 14 = true := by kernel_rfl
theorem f14_in (h : GI QP gp [(RV.t 2),(RV.t 3)] res 12 f14_c14 args) : Does QP gp 14 args res := f14_k.i f14_ok h
def f15_r0:List MO:=[Qa (Qv 1) (MOp.ibox (Qn 0)),Qa (Qv 2) (MOp.alloc [D.nilI])]
def f15_c0:MC:=.r0 f15_r0
def f15_r1:List MO:=[Qa (Qv 6) (Qg 1 (Qn 1)),Qa (Qv 7) (Qf 1 false (Qn 6)),Qa (Qv 8) (Qk Qt (Qn 7)),Qa (Qv 9) (Qe Qt Go.BinOp.gtr (Qn 8) (Qo (Qp (Qq (Qr Qu 200))))),Qa (Qv 5) (Qd (Qn 9))]
def f15_c1:MC:=.r0 f15_r1
def f15_r2:List MO:=[Qa (Qv 10) (MOp.build [(Qr Qu 0),(Qr Qu 0)] [(0,(1,(Qo (Qp (Qq (Qr Qu 0)))))),(1,(1,(Qo (Qp (Qq (Qr Qu 71))))))]),Qa (Qv 11) (MOp.mkI 64 (Qn 10)),Qa none (Ql 1 (Qn 2) (Qn 11))]
def f15_c2:MC:=.r0 f15_r2
def f15_r5:List MO:=[Qa (Qv 13) (Qf 2 true (Qn 1)),Qa (Qv 14) (Qg 0 (Qn 1)),Qa (Qv 15) (Qf 1 false (Qn 14)),Qa (Qv 16) (Qh 25 [(Qn 13),(Qn 15)]),Qa (Qv 17) (MOp.not (Qn 16)),Qa (Qv 12) (Qd (Qn 17))]
def f15_c5:MC:=.r0 f15_r5
def f15_r6:List MO:=[Qa (Qv 18) (MOp.build [(Qr Qu 0),(Qr Qu 0)] [(0,(1,(Qo (Qp (Qq (Qr Qu (-1))))))),(1,(1,(Qo (Qp (Qq (Qr Qu 70))))))]),Qa (Qv 19) (MOp.mkI 64 (Qn 18)),Qa none (Ql 1 (Qn 2) (Qn 19))]
def f15_c6:MC:=.r0 f15_r6
def f15_c13:MC:=.seq f15_c1 (.cond (Qn 5) (.seq f15_c2 .ret) (.seq f15_c5 (.cond (Qn 12) (.seq f15_c6 .ret) .skip)))
def f15_r15:List MO:=[Qa (Qv 20) (Qf 2 true (Qn 1)),Qa (Qv 21) (Qh 26 [(Qn 20)])]
def f15_c15:MC:=.r0 f15_r15
def f15_r16:List MO:=[Qa (Qv 3) (Qd (Qn 22))]
def f15_c16:MC:=.r0 f15_r16
def f15_r17:List MO:=[Qa (Qv 4) (MOp.alloc [(Qr Qu 0),(Qr Qu 0),(Qr Qu 0),(D.str (ByteArray.mk #[])),(D.sl []),(D.sl []),(Qr Qu 0)]),Qa none (Ql 7 (Qn 4) (Qn 23))]
def f15_c17:MC:=.r0 f15_r17
def f15_r19:List MO:=[Qa (Qv 24) (Qf 7 true (Qn 4)),Qa (Qv 25) (Qh 27 [(Qn 24)]),Qa (Qv 26) (MOp.not (Qn 25))]
def f15_c19:MC:=.r0 f15_r19
def f15_r20:List MO:=[Qa (Qv 27) (Qd (Qn 3)),Qa (Qv 28) (MOp.build [(Qr Qu 0),(Qr Qu 0)] [(0,(1,(Qn 27))),(1,(1,(Qo (Qp (Qq (Qr Qu 70))))))]),Qa (Qv 29) (MOp.mkI 64 (Qn 28)),Qa none (Ql 1 (Qn 2) (Qn 29))]
def f15_c20:MC:=.r0 f15_r20
def f15_c27:MC:=.rf (Qn 21) [22,23] (.seq f15_c16 f15_c17) (.blk 2 (.seq f15_c19 (.cond (Qn 26) (.seq f15_c20 .ret) .skip)))
def f15_r30:List MO:=[Qa none (Ql 1 (Qn 2) (Qo (Qp (Qq D.nilI))))]
def f15_c30:MC:=.r0 f15_r30
def f15_c34:MC:=.seq (.blk 0 f15_c13) (.seq (.seq f15_c15 (.blk 1 f15_c27)) (.seq f15_c30 .ret))
def f15_c35:MC:=.seq f15_c0 f15_c34
attribute [go_sem] f15_r0 f15_r1 f15_r2 f15_r5 f15_r6 f15_r15 f15_r16 f15_r17 f15_r19 f15_r20 f15_r30
theorem f15_k : KK QP 15 f15 [1] f15_c35 [(RV.cell 2 1 false)] 30 := by refine ⟨func15,?_,?_,?_,?_⟩<;>kernel_rfl
theorem f15_ok : callable QP 15 = true := by kernel_rfl
theorem f15_in (h : GI QP gp [(RV.cell 2 1 false)] res 30 f15_c35 args) : Does QP gp 15 args res := f15_k.i f15_ok h
def f16_r0:List MO:=[Qa (Qv 2) (MOp.ibox (Qn 0)),Qa (Qv 4) (MOp.alloc [(Qr Qu 0),(Qr Qu 0),(Qr Qu 0),(D.str (ByteArray.mk #[])),(D.sl []),(D.sl []),(Qr Qu 0)]),Qa (Qv 5) (Qd (Qo (Qp (Qq (Qr Qu 0)))))]
def f16_c0:MC:=.r0 f16_r0
def f16_r1:List MO:=[Qa (Qv 6) (Qf 2 true (Qn 2)),Qa (Qv 7) (Qd (Qn 1)),Qa (Qv 8) (Qh 25 [(Qn 6),(Qn 7)]),Qa (Qv 9) (MOp.not (Qn 8))]
def f16_c1:MC:=.r0 f16_r1
def f16_r2:List MO:=[Qa (Qv 10) (MOp.build [(Qr Qu 0),(Qr Qu 0),(Qr Qu 0),(D.str (ByteArray.mk #[])),(D.sl []),(D.sl []),(Qr Qu 0)] []),Qa none (Ql 7 (Qn 4) (Qn 10)),Qa (Qv 5) (Qd (Qo (Qp (Qq (Qr Qu 2)))))]
def f16_c2:MC:=.r0 f16_r2
def f16_r8:List MO:=[Qa (Qv 11) (Qg 1 (Qn 2)),Qa (Qv 12) (Qf 1 false (Qn 11)),Qa (Qv 13) (Qd (Qn 1)),Qa (Qv 14) (Qj 6 (Qn 12) (Qn 13)),Qa (Qv 15) (Qf 6 true (Qn 14)),Qa (Qv 16) (Qg 1 (Qn 2)),Qa (Qv 17) (Qf 1 false (Qn 16)),Qa (Qv 18) (Qk Qt (Qn 17)),Qa (Qv 19) (MOp.build [(Qr Qu 0),(Qr Qu 0),(Qr Qu 0),(D.str (ByteArray.mk #[])),(D.sl []),(D.sl []),(Qr Qu 0)] [(0,(6,(Qn 15))),(6,(1,(Qn 18)))]),Qa none (Ql 7 (Qn 4) (Qn 19)),Qa (Qv 5) (Qd (Qo (Qp (Qq (Qr Qu 0)))))]
def f16_c8:MC:=.reg true f16_r8
def f16_c12:MC:=.seq f16_c0 (.seq (.seq f16_c1 (.cond (Qn 9) (.seq f16_c2 .ret) .skip)) (.seq f16_c8 .ret))
attribute [go_sem] f16_r0 f16_r1 f16_r2 f16_r8
theorem f16_k : KK QP 16 f16 [2] f16_c12 [(RV.cell 4 7 true),(RV.t 5)] 20 := by refine ⟨func16,?_,?_,?_,?_⟩<;>kernel_rfl
theorem f16_ok : callable QP 16 = true := by kernel_rfl
theorem f16_in (h : GI QP gp [(RV.cell 4 7 true),(RV.t 5)] res 20 f16_c12 args) : Does QP gp 16 args res := f16_k.i f16_ok h
def f17_r0:List MO:=[Qa (Qv 2) (Qd (Qo (Qp A.nil)))]
def f17_c0:MC:=.r0 f17_r0
def f17_r1:List MO:=[Qa (Qv 3) (Qd (Qn 0)),Qa (Qv 4) (MOp.nilq NK.sl false (Qn 3))]
def f17_c1:MC:=.r0 f17_r1
def f17_r2:List MO:=[Qa (Qv 2) (Qd (Qo (Qp A.nil)))]
def f17_c2:MC:=.r0 f17_r2
def f17_r8:List MO:=[Qa (Qv 5) (MOp.bslO 1 [(Qr Qu 0)] 0 []),Qa (Qv 6) (Qd (Qn 0)),Qa (Qv 7) (MOp.app 3 1 8 (Qn 5) (Qn 6)),Qa (Qv 2) (Qd (Qn 7))]
def f17_c8:MC:=.r0 f17_r8
def f17_c12:MC:=.seq f17_c0 (.seq (.seq f17_c1 (.cond (Qn 4) (.seq f17_c2 .ret) .skip)) (.seq f17_c8 .ret))
theorem f17_k : KK QP 17 f17 [5] f17_c12 [(RV.t 2)] 8 := by refine ⟨func17,?_,?_,?_,?_⟩<;>kernel_rfl
theorem f17_ok : callable QP 17 = true := by kernel_rfl
theorem f17_in (h : GI QP gp [(RV.t 2)] res 8 f17_c12 args) : Does QP gp 17 args res := f17_k.i f17_ok h
theorem f17_tri (h : GT QP gp [(RV.t 2)] pre R 8 f17_c12 args) : Tri QP gp 17 args pre R := f17_k.t h
def f18_r0:List MO:=[Qa (Qv 1) (MOp.ibox (Qn 0)),Qa (Qv 2) (Qd (Qo (Qp A.nil)))]
def f18_c0:MC:=.r0 f18_r0
def f18_r1:List MO:=[Qa (Qv 6) (Qg 0 (Qn 1)),Qa (Qv 7) (Qg 0 (Qn 6)),Qa (Qv 8) (Qf 1 false (Qn 7)),Qa (Qv 9) (Qe Qt Go.BinOp.neq (Qn 8) (Qo (Qp (Qq (Qr Qu 2))))),Qa (Qv 10) (Qd (Qn 9)),Qb 10 false (Qv 11),Qa (Qv 11) (Qf 7 true (Qn 1)),Qb 10 false (Qv 12),Qa (Qv 12) (Qh 28 [(Qn 11)]),Qb 10 false (Qv 13),Qa (Qv 13) (MOp.not (Qn 12)),Qa (Qv 14) (Qm (Qn 10) (Qo (Qp (Qq (Qs true)))) (Qn 13))]
def f18_c1:MC:=.r0 f18_r1
def f18_r2:List MO:=[Qa (Qv 2) (Qd (Qo (Qp A.nil)))]
def f18_c2:MC:=.r0 f18_r2
def f18_r8:List MO:=[Qa (Qv 3) (Qd (Qo (Qp A.nil)))]
def f18_c8:MC:=.r0 f18_r8
def f18_r9:List MO:=[Qa (Qv 15) (Qg 0 (Qn 1)),Qa (Qv 16) (Qg 4 (Qn 15)),Qa (Qv 17) (Qf 1 false (Qn 16)),Qa (Qv 18) (Qk Qt (Qn 17)),Qa (Qv 19) (Qd (Qo (Qp (Qq (Qr Qu 0)))))]
def f18_c9:MC:=.r0 f18_r9
def f18_r10:List MO:=[Qa (Qv 20) (Qe Qt Go.BinOp.lss (Qn 19) (Qn 18))]
def f18_c10:MC:=.r0 f18_r10
def f18_r14:List MO:=[Qa (Qv 21) (Qd (Qn 19)),Qa (Qv 22) (Qj 3 (Qn 17) (Qn 19)),Qa (Qv 23) (Qf 3 true (Qn 22)),Qa (Qv 5) (MOp.alloc [(Qr Qu 0),(Qr Qu 0),(D.str (ByteArray.mk #[]))]),Qa (Qv 4) (Qd (Qn 21)),Qa none (Ql 3 (Qn 5) (Qn 23))]
def f18_c14:MC:=.r0 f18_r14
def f18_r15:List MO:=[Qa (Qv 24) (Qd (Qn 3)),Qa (Qv 25) (Qf 3 true (Qn 5)),Qa (Qv 26) (Qg 0 (Qn 1)),Qa (Qv 27) (Qg 5 (Qn 26)),Qa (Qv 28) (Qf 1 false (Qn 27)),Qa (Qv 29) (Qd (Qn 4)),Qa (Qv 30) (Qj 1 (Qn 28) (Qn 29)),Qa (Qv 31) (Qf 1 false (Qn 30)),Qa (Qv 32) (MOp.build [(Qr Qu 0),(Qr Qu 0),(D.str (ByteArray.mk #[])),(Qr Qu 0)] [(0,(3,(Qn 25))),(3,(1,(Qn 31)))]),Qa (Qv 33) (MOp.bslice 4 [(Qr Qu 0),(Qr Qu 0),(D.str (ByteArray.mk #[])),(Qr Qu 0)] 1 [(0,(Qn 32))]),Qa (Qv 34) (MOp.app 59 4 40 (Qn 24) (Qn 33)),Qa (Qv 3) (Qd (Qn 34))]
def f18_c15:MC:=.reg true f18_r15
def f18_r18:List MO:=[Qa (Qv 35) (Qe Qt Go.BinOp.add (Qn 19) (Qo (Qp (Qq (Qr Qu 1))))),Qa (Qv 19) (Qd (Qn 35))]
def f18_c18:MC:=.r0 f18_r18
def f18_c21:MC:=.seq f18_c10 (.seq (.cond (Qn 20) .skip (MC.exit 0)) (.seq (.blk 1 (.seq f18_c14 f18_c15)) f18_c18))
def f18_r25:List MO:=[Qa (Qv 36) (Qd (Qn 3)),Qa (Qv 37) (Qh 29 [(Qn 36),(Qo (Qp (Qq (D.fn (Go.Fn.func 30) []))))])]
def f18_c25:MC:=.r0 f18_r25
def f18_r26:List MO:=[Qa (Qv 38) (Qd (Qn 3)),Qa (Qv 2) (Qd (Qn 38))]
def f18_c26:MC:=.r0 f18_r26
def f18_c30:MC:=.seq (.seq f18_c9 (.blk 0 (.loop f18_c21))) (.seq f18_c25 (.seq f18_c26 .ret))
def f18_c32:MC:=.seq (.seq f18_c1 (.cond (Qn 14) (.seq f18_c2 .ret) .skip)) (.seq f18_c8 f18_c30)
def f18_c33:MC:=.seq f18_c0 f18_c32
attribute [go_sem] f18_r0 f18_r1 f18_r2 f18_r8 f18_r9 f18_r10 f18_r14 f18_r15 f18_r18 f18_r25 f18_r26
theorem f18_k : KK QP 18 f18 [1] f18_c33 [(RV.t 2)] 39 := by refine ⟨func18,?_,?_,?_,?_⟩<;>kernel_rfl
theorem f18_ok : callable QP 18 = true := by kernel_rfl
theorem f18_in (h : GI QP gp [(RV.t 2)] res 39 f18_c33 args) : Does QP gp 18 args res := f18_k.i f18_ok h
def f19_r0:List MO:=[Qa (Qv 2) (MOp.ibox (Qn 0)),Qa (Qv 3) (MOp.ibox (Qn 1)),Qa (Qv 4) (Qd (Qo (Qp (Qq (Qs false)))))]
def f19_c0:MC:=.r0 f19_r0
def f19_r1:List MO:=[Qa (Qv 5) (Qg 0 (Qn 2)),Qa (Qv 6) (Qf 1 false (Qn 5)),Qa (Qv 7) (Qg 0 (Qn 3)),Qa (Qv 8) (Qf 1 false (Qn 7)),Qa (Qv 9) (Qe Qt Go.BinOp.eql (Qn 6) (Qn 8)),Qa (Qv 10) (Qd (Qn 9)),Qb 10 true (Qv 11),Qa (Qv 11) (Qg 1 (Qn 2)),Qb 10 true (Qv 12),Qa (Qv 12) (Qf 3 true (Qn 11)),Qb 10 true (Qv 13),Qa (Qv 13) (Qg 1 (Qn 3)),Qb 10 true (Qv 14),Qa (Qv 14) (Qf 3 true (Qn 13)),Qb 10 true (Qv 15),Qa (Qv 15) (MOp.eqs false [Qt,Qt,Leaf.s] (Qn 12) (Qn 14)),Qa (Qv 16) (Qm (Qn 10) (Qn 15) (Qo (Qp (Qq (Qs false))))),Qa (Qv 17) (Qd (Qn 16)),Qb 17 true (Qv 18),Qa (Qv 18) (Qg 4 (Qn 2)),Qb 17 true (Qv 19),Qa (Qv 19) (Qf 1 false (Qn 18)),Qb 17 true (Qv 20),Qa (Qv 20) (Qg 4 (Qn 3)),Qb 17 true (Qv 21),Qa (Qv 21) (Qf 1 false (Qn 20)),Qb 17 true (Qv 22),Qa (Qv 22) (Qh 20 [(Qn 19),(Qn 21)]),Qa (Qv 23) (Qm (Qn 17) (Qn 22) (Qo (Qp (Qq (Qs false))))),Qa (Qv 24) (Qd (Qn 23)),Qb 24 true (Qv 25),Qa (Qv 25) (Qg 5 (Qn 2)),Qb 24 true (Qv 26),Qa (Qv 26) (Qf 1 false (Qn 25)),Qb 24 true (Qv 27),Qa (Qv 27) (Qg 5 (Qn 3)),Qb 24 true (Qv 28),Qa (Qv 28) (Qf 1 false (Qn 27)),Qb 24 true (Qv 29),Qa (Qv 29) (Qh 21 [(Qn 26),(Qn 28)]),Qa (Qv 30) (Qm (Qn 24) (Qn 29) (Qo (Qp (Qq (Qs false))))),Qa (Qv 4) (Qd (Qn 30))]
def f19_c1:MC:=.r0 f19_r1
def f19_c4:MC:=.seq f19_c0 (.seq f19_c1 .ret)
attribute [go_sem] f19_r0 f19_r1
theorem f19_k : KK QP 19 f19 [2,3] f19_c4 [(RV.t 4)] 31 := by refine ⟨func19,?_,?_,?_,?_⟩<;>kernel_rfl
theorem f19_ok : callable QP 19 = true := by kernel_rfl
theorem f19_in (h : GI QP gp [(RV.t 4)] res 31 f19_c4 args) : Does QP gp 19 args res := f19_k.i f19_ok h
def f20_r0:List MO:=[Qa (Qv 4) (Qd (Qo (Qp (Qq (Qs false)))))]
def f20_c0:MC:=.r0 f20_r0
def f20_r1:List MO:=[Qa (Qv 6) (Qd (Qn 0)),Qa (Qv 7) (Qk Qt (Qn 6)),Qa (Qv 8) (Qd (Qn 1)),Qa (Qv 9) (Qk Qt (Qn 8)),Qa (Qv 10) (Qe Qt Go.BinOp.neq (Qn 7) (Qn 9))]
def f20_c1:MC:=.r0 f20_r1
def f20_r2:List MO:=[Qa (Qv 4) (Qd (Qo (Qp (Qq (Qs false)))))]
def f20_c2:MC:=.r0 f20_r2
def f20_r8:List MO:=[Qa (Qv 11) (Qd (Qn 0)),Qa (Qv 12) (Qk Qt (Qn 11)),Qa (Qv 13) (Qd (Qo (Qp (Qq (Qr Qu 0)))))]
def f20_c8:MC:=.r0 f20_r8
def f20_r9:List MO:=[Qa (Qv 14) (Qe Qt Go.BinOp.lss (Qn 13) (Qn 12))]
def f20_c9:MC:=.r0 f20_r9
def f20_r13:List MO:=[Qa (Qv 15) (Qd (Qn 13)),Qa (Qv 5) (Qd (Qn 15))]
def f20_c13:MC:=.r0 f20_r13
def f20_r14:List MO:=[Qa (Qv 16) (Qd (Qn 0)),Qa (Qv 17) (Qd (Qn 5)),Qa (Qv 18) (Qj 3 (Qn 16) (Qn 17)),Qa (Qv 19) (Qf 3 true (Qn 18)),Qa (Qv 20) (Qd (Qn 1)),Qa (Qv 21) (Qd (Qn 5)),Qa (Qv 22) (Qj 3 (Qn 20) (Qn 21)),Qa (Qv 23) (Qf 3 true (Qn 22)),Qa (Qv 24) (MOp.eqs true [Qt,Qt,Leaf.s] (Qn 19) (Qn 23))]
def f20_c14:MC:=.reg true f20_r14
def f20_r15:List MO:=[Qa (Qv 4) (Qd (Qo (Qp (Qq (Qs false)))))]
def f20_c15:MC:=.r0 f20_r15
def f20_r23:List MO:=[Qa (Qv 25) (Qe Qt Go.BinOp.add (Qn 13) (Qo (Qp (Qq (Qr Qu 1))))),Qa (Qv 13) (Qd (Qn 25))]
def f20_c23:MC:=.r0 f20_r23
def f20_c24:MC:=.seq (.blk 1 (.seq f20_c13 (.seq f20_c14 (.cond (Qn 24) (.seq f20_c15 .ret) .skip)))) f20_c23
def f20_r30:List MO:=[Qa (Qv 4) (Qd (Qo (Qp (Qq (Qs true)))))]
def f20_c30:MC:=.r0 f20_r30
def f20_c33:MC:=.seq (.seq f20_c8 (.blk 0 (.loop (.seq f20_c9 (.seq (.cond (Qn 14) .skip (MC.exit 0)) f20_c24))))) (.seq f20_c30 .ret)
def f20_c35:MC:=.seq f20_c0 (.seq (.seq f20_c1 (.cond (Qn 10) (.seq f20_c2 .ret) .skip)) f20_c33)
attribute [go_sem] f20_r0 f20_r1 f20_r2 f20_r8 f20_r9 f20_r13 f20_r14 f20_r15 f20_r23 f20_r30
theorem f20_k : KK QP 20 f20 [] f20_c35 [(RV.t 4)] 26 := by refine ⟨func20,?_,?_,?_,?_⟩<;>kernel_rfl
theorem f20_ok : callable QP 20 = true := by kernel_rfl
theorem f20_in (h : GI QP gp [(RV.t 4)] res 26 f20_c35 args) : Does QP gp 20 args res := f20_k.i f20_ok h
def f21_r0:List MO:=[Qa (Qv 4) (Qd (Qo (Qp (Qq (Qs false)))))]
def f21_c0:MC:=.r0 f21_r0
def f21_r1:List MO:=[Qa (Qv 6) (Qd (Qn 0)),Qa (Qv 7) (Qk Qt (Qn 6)),Qa (Qv 8) (Qd (Qn 1)),Qa (Qv 9) (Qk Qt (Qn 8)),Qa (Qv 10) (Qe Qt Go.BinOp.neq (Qn 7) (Qn 9))]
def f21_c1:MC:=.r0 f21_r1
def f21_r2:List MO:=[Qa (Qv 4) (Qd (Qo (Qp (Qq (Qs false)))))]
def f21_c2:MC:=.r0 f21_r2
def f21_r8:List MO:=[Qa (Qv 11) (Qd (Qn 0)),Qa (Qv 12) (Qk Qt (Qn 11)),Qa (Qv 13) (Qd (Qo (Qp (Qq (Qr Qu 0)))))]
def f21_c8:MC:=.r0 f21_r8
def f21_r9:List MO:=[Qa (Qv 14) (Qe Qt Go.BinOp.lss (Qn 13) (Qn 12))]
def f21_c9:MC:=.r0 f21_r9
def f21_r13:List MO:=[Qa (Qv 15) (Qd (Qn 13)),Qa (Qv 5) (Qd (Qn 15))]
def f21_c13:MC:=.r0 f21_r13
def f21_r14:List MO:=[Qa (Qv 16) (Qd (Qn 0)),Qa (Qv 17) (Qd (Qn 5)),Qa (Qv 18) (Qj 1 (Qn 16) (Qn 17)),Qa (Qv 19) (Qf 1 false (Qn 18)),Qa (Qv 20) (Qd (Qn 1)),Qa (Qv 21) (Qd (Qn 5)),Qa (Qv 22) (Qj 1 (Qn 20) (Qn 21)),Qa (Qv 23) (Qf 1 false (Qn 22)),Qa (Qv 24) (Qe Qt Go.BinOp.neq (Qn 19) (Qn 23))]
def f21_c14:MC:=.reg true f21_r14
def f21_r15:List MO:=[Qa (Qv 4) (Qd (Qo (Qp (Qq (Qs false)))))]
def f21_c15:MC:=.r0 f21_r15
def f21_r23:List MO:=[Qa (Qv 25) (Qe Qt Go.BinOp.add (Qn 13) (Qo (Qp (Qq (Qr Qu 1))))),Qa (Qv 13) (Qd (Qn 25))]
def f21_c23:MC:=.r0 f21_r23
def f21_c24:MC:=.seq (.blk 1 (.seq f21_c13 (.seq f21_c14 (.cond (Qn 24) (.seq f21_c15 .ret) .skip)))) f21_c23
def f21_r30:List MO:=[Qa (Qv 4) (Qd (Qo (Qp (Qq (Qs true)))))]
def f21_c30:MC:=.r0 f21_r30
def f21_c33:MC:=.seq (.seq f21_c8 (.blk 0 (.loop (.seq f21_c9 (.seq (.cond (Qn 14) .skip (MC.exit 0)) f21_c24))))) (.seq f21_c30 .ret)
def f21_c35:MC:=.seq f21_c0 (.seq (.seq f21_c1 (.cond (Qn 10) (.seq f21_c2 .ret) .skip)) f21_c33)
attribute [go_sem] f21_r0 f21_r1 f21_r2 f21_r8 f21_r9 f21_r13 f21_r14 f21_r15 f21_r23 f21_r30
theorem f21_k : KK QP 21 f21 [] f21_c35 [(RV.t 4)] 26 := by refine ⟨func21,?_,?_,?_,?_⟩<;>kernel_rfl
theorem f21_ok : callable QP 21 = true := by kernel_rfl
theorem f21_in (h : GI QP gp [(RV.t 4)] res 26 f21_c35 args) : Does QP gp 21 args res := f21_k.i f21_ok h
def f22_r0:List MO:=[Qa (Qv 6) (Qd (Qo (Qp (Qq (Qs false)))))]
def f22_c0:MC:=.r0 f22_r0
def f22_r1:List MO:=[Qa (Qv 10) (Qd (Qn 0)),Qa (Qv 11) (Qk Qt (Qn 10)),Qa (Qv 12) (Qd (Qn 1)),Qa (Qv 13) (Qk Qt (Qn 12)),Qa (Qv 14) (Qe Qt Go.BinOp.neq (Qn 11) (Qn 13))]
def f22_c1:MC:=.r0 f22_r1
def f22_r2:List MO:=[Qa (Qv 6) (Qd (Qo (Qp (Qq (Qs false)))))]
def f22_c2:MC:=.r0 f22_r2
def f22_r8:List MO:=[Qa (Qv 15) (Qd (Qn 0)),Qa (Qv 16) (Qk Qt (Qn 15)),Qa (Qv 17) (Qd (Qo (Qp (Qq (Qr Qu 0)))))]
def f22_c8:MC:=.r0 f22_r8
def f22_r9:List MO:=[Qa (Qv 18) (Qe Qt Go.BinOp.lss (Qn 17) (Qn 16))]
def f22_c9:MC:=.r0 f22_r9
def f22_r13:List MO:=[Qa (Qv 19) (Qd (Qn 17)),Qa (Qv 20) (Qj 6 (Qn 15) (Qn 17)),Qa (Qv 21) (Qf 6 true (Qn 20)),Qa (Qv 8) (MOp.alloc [(Qr Qu 0),(Qr Qu 0),(Qr Qu 0),(D.str (ByteArray.mk #[])),(D.sl []),(D.sl [])]),Qa (Qv 7) (Qd (Qn 19)),Qa none (Ql 6 (Qn 8) (Qn 21))]
def f22_c13:MC:=.r0 f22_r13
def f22_r14:List MO:=[Qa (Qv 22) (Qd (Qn 1)),Qa (Qv 23) (Qd (Qn 7)),Qa (Qv 24) (Qj 6 (Qn 22) (Qn 23)),Qa (Qv 25) (Qf 6 true (Qn 24)),Qa (Qv 9) (MOp.alloc [(Qr Qu 0),(Qr Qu 0),(Qr Qu 0),(D.str (ByteArray.mk #[])),(D.sl []),(D.sl [])]),Qa none (Ql 6 (Qn 9) (Qn 25))]
def f22_c14:MC:=.r0 f22_r14
def f22_r15:List MO:=[Qa (Qv 26) (Qd (Qn 2)),Qa (Qv 27) (Qf 6 true (Qn 8)),Qa (Qv 28) (Qf 6 true (Qn 9)),Qa (Qv 29) (MOp.callv (Qn 26) [(Qn 27),(Qn 28)]),Qa (Qv 30) (MOp.not (Qn 29))]
def f22_c15:MC:=.r0 f22_r15
def f22_r16:List MO:=[Qa (Qv 6) (Qd (Qo (Qp (Qq (Qs false)))))]
def f22_c16:MC:=.r0 f22_r16
def f22_c23:MC:=.seq f22_c13 (.seq f22_c14 (.seq f22_c15 (.cond (Qn 30) (.seq f22_c16 .ret) .skip)))
def f22_r25:List MO:=[Qa (Qv 31) (Qe Qt Go.BinOp.add (Qn 17) (Qo (Qp (Qq (Qr Qu 1))))),Qa (Qv 17) (Qd (Qn 31))]
def f22_c25:MC:=.r0 f22_r25
def f22_c31:MC:=.seq f22_c8 (.blk 0 (.loop (.seq f22_c9 (.seq (.cond (Qn 18) .skip (MC.exit 0)) (.seq (.blk 1 f22_c23) f22_c25)))))
def f22_r32:List MO:=[Qa (Qv 6) (Qd (Qo (Qp (Qq (Qs true)))))]
def f22_c32:MC:=.r0 f22_r32
def f22_c36:MC:=.seq (.seq f22_c1 (.cond (Qn 14) (.seq f22_c2 .ret) .skip)) (.seq f22_c31 (.seq f22_c32 .ret))
def f22_c37:MC:=.seq f22_c0 f22_c36
attribute [go_sem] f22_r0 f22_r1 f22_r2 f22_r8 f22_r9 f22_r13 f22_r14 f22_r15 f22_r16 f22_r25 f22_r32
theorem f22_k : KK QP 22 f22 [] f22_c37 [(RV.t 6)] 32 := by refine ⟨func22,?_,?_,?_,?_⟩<;>kernel_rfl
theorem f22_ok : callable QP 22 = true := by kernel_rfl
theorem f22_in (h : GI QP gp [(RV.t 6)] res 32 f22_c37 args) : Does QP gp 22 args res := f22_k.i f22_ok h
def f23_r0:List MO:=[Qa (Qv 2) (Qd (Qo (Qp (Qq (D.str (ByteArray.mk #[]))))))]
def f23_c0:MC:=.r0 f23_r0
def f23_r1:List MO:=[Qa (Qv 3) (Qd (Qn 0)),Qa (Qv 4) (Qd (Qn 0)),Qa (Qv 5) (Qk Leaf.s (Qn 4)),Qa (Qv 6) (MOp.min (Qn 5) (Qo (Qp (Qq (Qr Qu 100))))),Qa (Qv 7) (MOp.slcS (Qn 3) none (Qv (Qn 6))),Qa (Qv 2) (Qd (Qn 7))]
def f23_c1:MC:=.r0 f23_r1
def f23_c4:MC:=.seq f23_c0 (.seq f23_c1 .ret)
attribute [go_sem] f23_r0 f23_r1
theorem f23_k : KK QP 23 f23 [] f23_c4 [(RV.t 2)] 8 := by refine ⟨func23,?_,?_,?_,?_⟩<;>kernel_rfl
theorem f23_ok : callable QP 23 = true := by kernel_rfl
theorem f23_in (h : GI QP gp [(RV.t 2)] res 8 f23_c4 args) : Does QP gp 23 args res := f23_k.i f23_ok h
def f25_r0:List MO:=[Qa (Qv 2) (MOp.ibox (Qn 0)),Qa (Qv 4) (Qd (Qo (Qp (Qq (Qs false)))))]
def f25_c0:MC:=.r0 f25_r0
def f25_r1:List MO:=[Qa (Qv 5) (Qd (Qn 1)),Qa (Qv 6) (Qe Qt Go.BinOp.geq (Qn 5) (Qo (Qp (Qq (Qr Qu 0))))),Qa (Qv 7) (Qd (Qn 6)),Qb 7 true (Qv 8),Qa (Qv 8) (Qd (Qn 1)),Qb 7 true (Qv 9),Qa (Qv 9) (Qg 1 (Qn 2)),Qb 7 true (Qv 10),Qa (Qv 10) (Qf 1 false (Qn 9)),Qb 7 true (Qv 11),Qa (Qv 11) (Qk Qt (Qn 10)),Qb 7 true (Qv 12),Qa (Qv 12) (Qe Qt Go.BinOp.lss (Qn 8) (Qn 11)),Qa (Qv 13) (Qm (Qn 7) (Qn 12) (Qo (Qp (Qq (Qs false))))),Qa (Qv 4) (Qd (Qn 13))]
def f25_c1:MC:=.r0 f25_r1
def f25_c4:MC:=.seq f25_c0 (.seq f25_c1 .ret)
attribute [go_sem] f25_r0 f25_r1
theorem f25_k : KK QP 25 f25 [2] f25_c4 [(RV.t 4)] 14 := by refine ⟨func25,?_,?_,?_,?_⟩<;>kernel_rfl
theorem f25_ok : callable QP 25 = true := by kernel_rfl
theorem f25_in (h : GI QP gp [(RV.t 4)] res 14 f25_c4 args) : Does QP gp 25 args res := f25_k.i f25_ok h
def f26_r0:List MO:=[Qa (Qv 1) (MOp.ibox (Qn 0)),Qa (Qv 2) (Qd (Qo (Qp (Qq D.nilF))))]
def f26_c0:MC:=.r0 f26_r0
def f26_r1:List MO:=[Qa (Qv 3) (MOp.mkF (Go.Fn.func 36) [(Qn 1)]),Qa (Qv 2) (Qd (Qn 3))]
def f26_c1:MC:=.r0 f26_r1
def f26_c4:MC:=.seq f26_c0 (.seq f26_c1 .ret)
attribute [go_sem] f26_r0 f26_r1
theorem f26_k : KK QP 26 f26 [1] f26_c4 [(RV.t 2)] 4 := by refine ⟨func26,?_,?_,?_,?_⟩<;>kernel_rfl
theorem f26_ok : callable QP 26 = true := by kernel_rfl
theorem f26_in (h : GI QP gp [(RV.t 2)] res 4 f26_c4 args) : Does QP gp 26 args res := f26_k.i f26_ok h
def f27_r0:List MO:=[Qa (Qv 1) (MOp.ibox (Qn 0)),Qa (Qv 2) (Qd (Qo (Qp (Qq (Qs false)))))]
def f27_c0:MC:=.r0 f27_r0
def f27_r1:List MO:=[Qa (Qv 4) (MOp.build [D.nilF,D.nilF,D.nilF] [(0,(1,(Qo (Qp (Qq (D.fn (Go.Fn.func 37) [])))))),(1,(1,(Qo (Qp (Qq (D.fn (Go.Fn.func 38) [])))))),(2,(1,(Qo (Qp (Qq (D.fn (Go.Fn.func 39) []))))))]),Qa (Qv 3) (MOp.alloc [D.nilF,D.nilF,D.nilF]),Qa none (Ql 3 (Qn 3) (Qn 4))]
def f27_c1:MC:=.r0 f27_r1
def f27_r2:List MO:=[Qa (Qv 5) (Qg 0 (Qn 1)),Qa (Qv 6) (Qg 0 (Qn 5)),Qa (Qv 7) (Qf 1 false (Qn 6)),Qa (Qv 8) (Qe Qt Go.BinOp.geq (Qn 7) (Qo (Qp (Qq (Qr Qu 0))))),Qa (Qv 9) (Qd (Qn 8)),Qb 9 true (Qv 10),Qa (Qv 10) (Qg 0 (Qn 1)),Qb 9 true (Qv 11),Qa (Qv 11) (Qg 0 (Qn 10)),Qb 9 true (Qv 12),Qa (Qv 12) (Qf 1 false (Qn 11)),Qb 9 true (Qv 13),Qa (Qv 13) (Qe Qt Go.BinOp.lss (Qn 12) (Qo (Qp (Qq (Qr Qu 3))))),Qa (Qv 14) (Qm (Qn 9) (Qn 13) (Qo (Qp (Qq (Qs false))))),Qa (Qv 15) (Qd (Qn 14)),Qb 15 true (Qv 16),Qa (Qv 16) (Qg 0 (Qn 1)),Qb 15 true (Qv 17),Qa (Qv 17) (Qg 0 (Qn 16)),Qb 15 true (Qv 18),Qa (Qv 18) (Qf 1 false (Qn 17)),Qb 15 true (Qv 19),Qa (Qv 19) (MOp.iadA 3 1 (Qn 3) (Qn 18)),Qb 15 true (Qv 20),Qa (Qv 20) (Qf 1 false (Qn 19)),Qb 15 true (Qv 21),Qa (Qv 21) (Qf 7 true (Qn 1)),Qb 15 true (Qv 22),Qc (Qv 22) (MOp.callv (Qn 20) [(Qn 21)]),Qa (Qv 23) (Qm (Qn 15) (Qn 22) (Qo (Qp (Qq (Qs false))))),Qa (Qv 2) (Qd (Qn 23))]
def f27_c2:MC:=.reg true f27_r2
def f27_c6:MC:=.seq f27_c0 (.seq f27_c1 (.seq f27_c2 .ret))
attribute [go_sem] f27_r0 f27_r1 f27_r2
theorem f27_k : KK QP 27 f27 [1] f27_c6 [(RV.t 2)] 24 := by refine ⟨func27,?_,?_,?_,?_⟩<;>kernel_rfl
theorem f27_ok : callable QP 27 = true := by kernel_rfl
theorem f27_in (h : GI QP gp [(RV.t 2)] res 24 f27_c6 args) : Does QP gp 27 args res := f27_k.i f27_ok h
def f28_r0:List MO:=[Qa (Qv 1) (MOp.ibox (Qn 0)),Qa (Qv 2) (Qd (Qo (Qp (Qq (Qs false)))))]
def f28_c0:MC:=.r0 f28_r0
def f28_r1:List MO:=[Qa (Qv 3) (Qg 0 (Qn 1)),Qa (Qv 4) (Qg 4 (Qn 3)),Qa (Qv 5) (Qf 1 false (Qn 4)),Qa (Qv 6) (Qk Qt (Qn 5)),Qa (Qv 7) (Qg 0 (Qn 1)),Qa (Qv 8) (Qg 5 (Qn 7)),Qa (Qv 9) (Qf 1 false (Qn 8)),Qa (Qv 10) (Qk Qt (Qn 9)),Qa (Qv 11) (Qe Qt Go.BinOp.eql (Qn 6) (Qn 10)),Qa (Qv 2) (Qd (Qn 11))]
def f28_c1:MC:=.r0 f28_r1
def f28_c4:MC:=.seq f28_c0 (.seq f28_c1 .ret)
attribute [go_sem] f28_r0 f28_r1
theorem f28_k : KK QP 28 f28 [1] f28_c4 [(RV.t 2)] 12 := by refine ⟨func28,?_,?_,?_,?_⟩<;>kernel_rfl
theorem f28_ok : callable QP 28 = true := by kernel_rfl
theorem f28_in (h : GI QP gp [(RV.t 2)] res 12 f28_c4 args) : Does QP gp 28 args res := f28_k.i f28_ok h
def f29_r0:List MO:=[Qa (Qv 4) (Qd (Qn 0)),Qa (Qv 5) (Qd (Qn 0)),Qa (Qv 6) (Qk Qt (Qn 5)),Qa (Qv 7) (Qd (Qn 1)),Qa (Qv 8) (Qh 40 [(Qn 4),(Qn 6),(Qn 7)])]
def f29_c0:MC:=.r0 f29_r0
attribute [go_sem] f29_r0
theorem f29_k : KK QP 29 f29 [] f29_c0 [] 9 := by refine ⟨func29,?_,?_,?_,?_⟩<;>kernel_rfl
theorem f29_ok : callable QP 29 = true := by kernel_rfl
theorem f29_tri (h : GT QP gp [] pre R 9 f29_c0 args) : Tri QP gp 29 args pre R := f29_k.t h
def f30_r0:List MO:=[Qa (Qv 2) (MOp.ibox (Qn 0)),Qa (Qv 3) (MOp.ibox (Qn 1)),Qa (Qv 4) (Qd (Qo (Qp (Qq (Qr Qu 0)))))]
def f30_c0:MC:=.r0 f30_r0
def f30_r1:List MO:=[Qa (Qv 5) (Qg 0 (Qn 2)),Qa (Qv 6) (Qf 3 true (Qn 5)),Qa (Qv 7) (Qg 0 (Qn 3)),Qa (Qv 8) (Qf 3 true (Qn 7)),Qa (Qv 9) (Qh 31 [(Qn 6),(Qn 8)]),Qa (Qv 4) (Qd (Qn 9))]
def f30_c1:MC:=.r0 f30_r1
def f30_c4:MC:=.seq f30_c0 (.seq f30_c1 .ret)
attribute [go_sem] f30_r0 f30_r1
theorem f30_k : KK QP 30 f30 [2,3] f30_c4 [(RV.t 4)] 10 := by refine ⟨func30,?_,?_,?_,?_⟩<;>kernel_rfl
theorem f30_ok : callable QP 30 = true := by kernel_rfl
theorem f30_in (h : GI QP gp [(RV.t 4)] res 10 f30_c4 args) : Does QP gp 30 args res := f30_k.i f30_ok h
def f31_r0:List MO:=[Qa (Qv 2) (MOp.ibox (Qn 0)),Qa (Qv 3) (MOp.ibox (Qn 1)),Qa (Qv 4) (Qd (Qo (Qp (Qq (Qr Qu 0)))))]
def f31_c0:MC:=.r0 f31_r0
def f31_r1:List MO:=[Qa (Qv 5) (Qf 3 true (Qn 2)),Qa (Qv 6) (Qf 3 true (Qn 3)),Qa (Qv 7) (MOp.eqs false [Qt,Qt,Leaf.s] (Qn 5) (Qn 6))]
def f31_c1:MC:=.r0 f31_r1
def f31_r2:List MO:=[Qa (Qv 4) (Qd (Qo (Qp (Qq (Qr Qu 0)))))]
def f31_c2:MC:=.r0 f31_r2
def f31_r8:List MO:=[Qa (Qv 8) (Qg 0 (Qn 2)),Qa (Qv 9) (Qf 1 false (Qn 8)),Qa (Qv 10) (Qg 0 (Qn 3)),Qa (Qv 11) (Qf 1 false (Qn 10)),Qa (Qv 12) (Qh 42 [(Qn 9),(Qn 11)]),Qa (Qv 13) (Qg 1 (Qn 2)),Qa (Qv 14) (Qf 1 false (Qn 13)),Qa (Qv 15) (Qg 1 (Qn 3)),Qa (Qv 16) (Qf 1 false (Qn 15)),Qa (Qv 17) (Qh 42 [(Qn 14),(Qn 16)]),Qa (Qv 18) (Qg 2 (Qn 2)),Qa (Qv 19) (Qf 1 false (Qn 18)),Qa (Qv 20) (Qg 2 (Qn 3)),Qa (Qv 21) (Qf 1 false (Qn 20)),Qc (Qv 22) (Qh 43 [(Qn 19),(Qn 21)]),Qa (Qv 23) (MOp.bslice 1 [(Qr Qu 0)] 3 [(0,(Qn 12)),(1,(Qn 17)),(2,(Qn 22))]),Qc (Qv 24) (Qh 41 [(Qn 23)]),Qa (Qv 4) (Qd (Qn 24))]
def f31_c8:MC:=.reg true f31_r8
def f31_c12:MC:=.seq f31_c0 (.seq (.seq f31_c1 (.cond (Qn 7) (.seq f31_c2 .ret) .skip)) (.seq f31_c8 .ret))
attribute [go_sem] f31_r0 f31_r1 f31_r2 f31_r8
theorem f31_k : KK QP 31 f31 [2,3] f31_c12 [(RV.t 4)] 25 := by refine ⟨func31,?_,?_,?_,?_⟩<;>kernel_rfl
theorem f31_ok : callable QP 31 = true := by kernel_rfl
theorem f31_in (h : GI QP gp [(RV.t 4)] res 25 f31_c12 args) : Does QP gp 31 args res := f31_k.i f31_ok h
def f36_r1:List MO:=[Qa (Qv 5) (Qg 1 (Qn 1)),Qa (Qv 6) (Qf 1 false (Qn 5)),Qa (Qv 7) (Qk Qt (Qn 6)),Qa (Qv 8) (Qd (Qo (Qp (Qq (Qr Qu 0)))))]
def f36_c1:MC:=.r0 f36_r1
def f36_r2:List MO:=[Qa (Qv 9) (Qe Qt Go.BinOp.lss (Qn 8) (Qn 7))]
def f36_c2:MC:=.r0 f36_r2
def f36_r6:List MO:=[Qa (Qv 10) (Qd (Qn 8)),Qa (Qv 11) (Qj 6 (Qn 6) (Qn 8)),Qa (Qv 12) (Qf 6 true (Qn 11)),Qa (Qv 4) (MOp.alloc [(Qr Qu 0),(Qr Qu 0),(Qr Qu 0),(D.str (ByteArray.mk #[])),(D.sl []),(D.sl [])]),Qa (Qv 3) (Qd (Qn 10)),Qa none (Ql 6 (Qn 4) (Qn 12))]
def f36_c6:MC:=.r0 f36_r6
def f36_r7:List MO:=[Qa (Qv 13) (Qd (Qn 0)),Qa (Qv 14) (Qd (Qn 3)),Qa (Qv 15) (Qf 6 true (Qn 4)),Qa (Qv 16) (Qg 1 (Qn 1)),Qa (Qv 17) (Qf 1 false (Qn 16)),Qa (Qv 18) (Qk Qt (Qn 17)),Qa (Qv 19) (MOp.build [(Qr Qu 0),(Qr Qu 0),(Qr Qu 0),(D.str (ByteArray.mk #[])),(D.sl []),(D.sl []),(Qr Qu 0)] [(0,(6,(Qn 15))),(6,(1,(Qn 18)))]),Qa (Qv 20) (MOp.callv (Qn 13) [(Qn 14),(Qn 19)]),Qa (Qv 21) (MOp.not (Qn 20))]
def f36_c7:MC:=.r0 f36_r7
def f36_r14:List MO:=[Qa (Qv 22) (Qe Qt Go.BinOp.add (Qn 8) (Qo (Qp (Qq (Qr Qu 1))))),Qa (Qv 8) (Qd (Qn 22))]
def f36_c14:MC:=.r0 f36_r14
def f36_c17:MC:=.seq f36_c2 (.seq (.cond (Qn 9) .skip (MC.exit 0)) (.seq (.blk 1 (.seq f36_c6 (.seq f36_c7 (.cond (Qn 21) (MC.exit 0) .skip)))) f36_c14))
def f36_c22:MC:=.scope (.seq .skip (.seq f36_c1 (.blk 0 (.loop f36_c17))))
attribute [go_sem] f36_r1 f36_r2 f36_r6 f36_r7 f36_r14
theorem f36_k : KK QP 36 f36 [] f36_c22 [] 23 := by refine ⟨func36,?_,?_,?_,?_⟩<;>kernel_rfl
theorem f36_ok : callable QP 36 = true := by kernel_rfl
theorem f36_tri (h : GT QP gp [] pre R 23 f36_c22 args) : Tri QP gp 36 args pre R := f36_k.t h
def f37_r0:List MO:=[Qa (Qv 1) (MOp.ibox (Qn 0)),Qa (Qv 2) (Qd (Qo (Qp (Qq (Qs false)))))]
def f37_c0:MC:=.r0 f37_r0
def f37_r1:List MO:=[Qa (Qv 3) (Qg 0 (Qn 1)),Qa (Qv 4) (Qg 1 (Qn 3)),Qa (Qv 5) (Qf 3 true (Qn 4)),Qa (Qv 6) (Qh 48 [(Qn 5)]),Qa (Qv 7) (Qg 0 (Qn 1)),Qa (Qv 8) (Qg 4 (Qn 7)),Qa (Qv 9) (Qf 1 false (Qn 8)),Qa (Qv 10) (Qk Qt (Qn 9)),Qa (Qv 11) (Qe Qt Go.BinOp.eql (Qn 10) (Qo (Qp (Qq (Qr Qu 0))))),Qa (Qv 12) (Qg 0 (Qn 1)),Qa (Qv 13) (Qg 5 (Qn 12)),Qa (Qv 14) (Qf 1 false (Qn 13)),Qa (Qv 15) (Qk Qt (Qn 14)),Qa (Qv 16) (Qe Qt Go.BinOp.eql (Qn 15) (Qo (Qp (Qq (Qr Qu 0))))),Qa (Qv 17) (MOp.bslice 1 [(Qs false)] 3 [(0,(Qn 6)),(1,(Qn 11)),(2,(Qn 16))]),Qc (Qv 18) (Qh 47 [(Qn 17)]),Qa (Qv 2) (Qd (Qn 18))]
def f37_c1:MC:=.reg true f37_r1
def f37_c4:MC:=.seq f37_c0 (.seq f37_c1 .ret)
attribute [go_sem] f37_r0 f37_r1
theorem f37_k : KK QP 37 f37 [1] f37_c4 [(RV.t 2)] 19 := by refine ⟨func37,?_,?_,?_,?_⟩<;>kernel_rfl
theorem f37_ok : callable QP 37 = true := by kernel_rfl
theorem f37_in (h : GI QP gp [(RV.t 2)] res 19 f37_c4 args) : Does QP gp 37 args res := f37_k.i f37_ok h
def f38_r0:List MO:=[Qa (Qv 1) (MOp.ibox (Qn 0)),Qa (Qv 2) (Qd (Qo (Qp (Qq (Qs false)))))]
def f38_c0:MC:=.r0 f38_r0
def f38_r1:List MO:=[Qa (Qv 3) (Qg 0 (Qn 1)),Qa (Qv 4) (Qg 1 (Qn 3)),Qa (Qv 5) (Qf 3 true (Qn 4)),Qa (Qv 6) (MOp.build [(Qr Qu 0),(Qr Qu 0),(D.str (ByteArray.mk #[]))] []),Qa (Qv 7) (MOp.eqs false [Qt,Qt,Leaf.s] (Qn 5) (Qn 6)),Qa (Qv 8) (Qg 0 (Qn 1)),Qa (Qv 9) (Qg 4 (Qn 8)),Qa (Qv 10) (Qf 1 false (Qn 9)),Qa (Qv 11) (Qk Qt (Qn 10)),Qa (Qv 12) (Qe Qt Go.BinOp.eql (Qn 11) (Qo (Qp (Qq (Qr Qu 0))))),Qa (Qv 13) (Qf 7 true (Qn 1)),Qa (Qv 14) (Qh 49 [(Qn 13)]),Qa (Qv 15) (MOp.bslice 1 [(Qs false)] 3 [(0,(Qn 7)),(1,(Qn 12)),(2,(Qn 14))]),Qc (Qv 16) (Qh 47 [(Qn 15)]),Qa (Qv 2) (Qd (Qn 16))]
def f38_c1:MC:=.reg true f38_r1
def f38_c4:MC:=.seq f38_c0 (.seq f38_c1 .ret)
attribute [go_sem] f38_r0 f38_r1
theorem f38_k : KK QP 38 f38 [1] f38_c4 [(RV.t 2)] 17 := by refine ⟨func38,?_,?_,?_,?_⟩<;>kernel_rfl
theorem f38_ok : callable QP 38 = true := by kernel_rfl
theorem f38_in (h : GI QP gp [(RV.t 2)] res 17 f38_c4 args) : Does QP gp 38 args res := f38_k.i f38_ok h
def f39_r0:List MO:=[Qa (Qv 1) (MOp.ibox (Qn 0)),Qa (Qv 2) (Qd (Qo (Qp (Qq (Qs false)))))]
def f39_c0:MC:=.r0 f39_r0
def f39_r1:List MO:=[Qa (Qv 3) (Qg 0 (Qn 1)),Qa (Qv 4) (Qg 1 (Qn 3)),Qa (Qv 5) (Qf 3 true (Qn 4)),Qa (Qv 6) (MOp.build [(Qr Qu 0),(Qr Qu 0),(D.str (ByteArray.mk #[]))] []),Qa (Qv 7) (MOp.eqs false [Qt,Qt,Leaf.s] (Qn 5) (Qn 6)),Qa (Qv 8) (Qf 7 true (Qn 1)),Qa (Qv 9) (Qh 28 [(Qn 8)]),Qa (Qv 10) (Qf 7 true (Qn 1)),Qa (Qv 11) (Qh 50 [(Qn 10)]),Qa (Qv 12) (Qf 7 true (Qn 1)),Qa (Qv 13) (Qh 49 [(Qn 12)]),Qa (Qv 14) (MOp.bslice 1 [(Qs false)] 4 [(0,(Qn 7)),(1,(Qn 9)),(2,(Qn 11)),(3,(Qn 13))]),Qc (Qv 15) (Qh 47 [(Qn 14)]),Qa (Qv 2) (Qd (Qn 15))]
def f39_c1:MC:=.reg true f39_r1
def f39_c4:MC:=.seq f39_c0 (.seq f39_c1 .ret)
attribute [go_sem] f39_r0 f39_r1
theorem f39_k : KK QP 39 f39 [1] f39_c4 [(RV.t 2)] 16 := by refine ⟨func39,?_,?_,?_,?_⟩<;>kernel_rfl
theorem f39_ok : callable QP 39 = true := by kernel_rfl
theorem f39_in (h : GI QP gp [(RV.t 2)] res 16 f39_c4 args) : Does QP gp 39 args res := f39_k.i f39_ok h
def f40_r0:List MO:=[Qa (Qv 6) (Qd (Qo (Qp (Qq (Qr Qu 20)))))]
def f40_c0:MC:=.r0 f40_r0
def f40_r1:List MO:=[Qa (Qv 10) (Qd (Qn 6)),Qa (Qv 7) (Qd (Qo (Qp (Qq (Qr Qu 0))))),Qa (Qv 8) (Qd (Qn 10))]
def f40_c1:MC:=.r0 f40_r1
def f40_r2:List MO:=[Qa (Qv 11) (Qd (Qn 8)),Qa (Qv 12) (Qd (Qn 1)),Qa (Qv 13) (Qe Qt Go.BinOp.leq (Qn 11) (Qn 12))]
def f40_c2:MC:=.r0 f40_r2
def f40_r7:List MO:=[Qa (Qv 14) (Qd (Qn 0)),Qa (Qv 15) (Qd (Qn 7)),Qa (Qv 16) (Qd (Qn 8)),Qa (Qv 17) (Qd (Qn 2)),Qa (Qv 18) (Qh 51 [(Qn 14),(Qn 15),(Qn 16),(Qn 17)])]
def f40_c7:MC:=.r0 f40_r7
def f40_r8:List MO:=[Qa (Qv 19) (Qd (Qn 8)),Qa (Qv 7) (Qd (Qn 19))]
def f40_c8:MC:=.r0 f40_r8
def f40_r9:List MO:=[Qa (Qv 20) (Qd (Qn 8)),Qa (Qv 21) (Qd (Qn 6)),Qa (Qv 22) (Qe Qt Go.BinOp.add (Qn 20) (Qn 21)),Qa (Qv 8) (Qd (Qn 22))]
def f40_c9:MC:=.r0 f40_r9
def f40_c13:MC:=.seq (.seq f40_c2 (.cond (Qn 13) .skip (MC.exit 0))) (.blk 1 (.seq f40_c7 (.seq f40_c8 f40_c9)))
def f40_r16:List MO:=[Qa (Qv 23) (Qd (Qn 0)),Qa (Qv 24) (Qd (Qn 7)),Qa (Qv 25) (Qd (Qn 1)),Qa (Qv 26) (Qd (Qn 2)),Qa (Qv 27) (Qh 51 [(Qn 23),(Qn 24),(Qn 25),(Qn 26)])]
def f40_c16:MC:=.r0 f40_r16
def f40_r17:List MO:=[Qa (Qv 28) (Qd (Qn 6)),Qa (Qv 29) (Qd (Qn 1)),Qa (Qv 30) (Qe Qt Go.BinOp.lss (Qn 28) (Qn 29))]
def f40_c17:MC:=.r0 f40_r17
def f40_r22:List MO:=[Qa (Qv 31) (Qd (Qn 6)),Qa (Qv 32) (Qe Qt Go.BinOp.mul (Qo (Qp (Qq (Qr Qu 2)))) (Qn 31)),Qa (Qv 7) (Qd (Qo (Qp (Qq (Qr Qu 0))))),Qa (Qv 8) (Qd (Qn 32))]
def f40_c22:MC:=.r0 f40_r22
def f40_r23:List MO:=[Qa (Qv 33) (Qd (Qn 8)),Qa (Qv 34) (Qd (Qn 1)),Qa (Qv 35) (Qe Qt Go.BinOp.leq (Qn 33) (Qn 34))]
def f40_c23:MC:=.r0 f40_r23
def f40_r28:List MO:=[Qa (Qv 36) (Qd (Qn 0)),Qa (Qv 37) (Qd (Qn 7)),Qa (Qv 38) (Qd (Qn 7)),Qa (Qv 39) (Qd (Qn 6)),Qa (Qv 40) (Qe Qt Go.BinOp.add (Qn 38) (Qn 39)),Qa (Qv 41) (Qd (Qn 8)),Qa (Qv 42) (Qd (Qn 2)),Qa (Qv 43) (Qh 52 [(Qn 36),(Qn 37),(Qn 40),(Qn 41),(Qn 42)])]
def f40_c28:MC:=.r0 f40_r28
def f40_r29:List MO:=[Qa (Qv 44) (Qd (Qn 8)),Qa (Qv 7) (Qd (Qn 44))]
def f40_c29:MC:=.r0 f40_r29
def f40_r30:List MO:=[Qa (Qv 45) (Qd (Qn 8)),Qa (Qv 46) (Qd (Qn 6)),Qa (Qv 47) (Qe Qt Go.BinOp.mul (Qo (Qp (Qq (Qr Qu 2)))) (Qn 46)),Qa (Qv 48) (Qe Qt Go.BinOp.add (Qn 45) (Qn 47)),Qa (Qv 8) (Qd (Qn 48))]
def f40_c30:MC:=.r0 f40_r30
def f40_c34:MC:=.seq (.seq f40_c23 (.cond (Qn 35) .skip (MC.exit 4))) (.blk 5 (.seq f40_c28 (.seq f40_c29 f40_c30)))
def f40_r37:List MO:=[Qa (Qv 49) (Qd (Qn 7)),Qa (Qv 50) (Qd (Qn 6)),Qa (Qv 51) (Qe Qt Go.BinOp.add (Qn 49) (Qn 50)),Qa (Qv 9) (Qd (Qn 51))]
def f40_c37:MC:=.r0 f40_r37
def f40_r38:List MO:=[Qa (Qv 52) (Qd (Qn 9)),Qa (Qv 53) (Qd (Qn 1)),Qa (Qv 54) (Qe Qt Go.BinOp.lss (Qn 52) (Qn 53))]
def f40_c38:MC:=.r0 f40_r38
def f40_r39:List MO:=[Qa (Qv 55) (Qd (Qn 0)),Qa (Qv 56) (Qd (Qn 7)),Qa (Qv 57) (Qd (Qn 9)),Qa (Qv 58) (Qd (Qn 1)),Qa (Qv 59) (Qd (Qn 2)),Qa (Qv 60) (Qh 52 [(Qn 55),(Qn 56),(Qn 57),(Qn 58),(Qn 59)])]
def f40_c39:MC:=.r0 f40_r39
def f40_r44:List MO:=[Qa (Qv 61) (Qd (Qn 6)),Qa (Qv 62) (Qe Qt Go.BinOp.mul (Qn 61) (Qo (Qp (Qq (Qr Qu 2))))),Qa (Qv 6) (Qd (Qn 62))]
def f40_c44:MC:=.r0 f40_r44
def f40_c45:MC:=.seq (.seq f40_c37 (.seq f40_c38 (.cond (Qn 54) f40_c39 .skip))) f40_c44
def f40_c49:MC:=.seq (.seq f40_c17 (.cond (Qn 30) .skip (MC.exit 2))) (.blk 3 (.seq f40_c22 (.seq (.blk 4 (.loop f40_c34)) f40_c45)))
def f40_c54:MC:=.seq f40_c1 (.seq (.blk 0 (.loop f40_c13)) (.seq f40_c16 (.blk 2 (.loop f40_c49))))
def f40_c55:MC:=.seq f40_c0 f40_c54
attribute [go_sem] f40_r0 f40_r1 f40_r2 f40_r7 f40_r8 f40_r9 f40_r16 f40_r17 f40_r22 f40_r23 f40_r28 f40_r29 f40_r30 f40_r37 f40_r38 f40_r39 f40_r44
theorem f40_k : KK QP 40 f40 [] f40_c55 [] 63 := by refine ⟨func40,?_,?_,?_,?_⟩<;>kernel_rfl
theorem f40_ok : callable QP 40 = true := by kernel_rfl
theorem f40_tri (h : GT QP gp [] pre R 63 f40_c55 args) : Tri QP gp 40 args pre R := f40_k.t h
def f41_r0:List MO:=[Qa (Qv 2) (Qd (Qo (Qp (Qq (Qr Qu 0)))))]
def f41_c0:MC:=.r0 f41_r0
def f41_r1:List MO:=[Qa (Qv 3) (Qd (Qo (Qp (Qq (Qr Qu 0)))))]
def f41_c1:MC:=.r0 f41_r1
def f41_r2:List MO:=[Qa (Qv 6) (Qd (Qn 0)),Qa (Qv 7) (Qk Qt (Qn 6)),Qa (Qv 8) (Qd (Qo (Qp (Qq (Qr Qu 0)))))]
def f41_c2:MC:=.r0 f41_r2
def f41_r3:List MO:=[Qa (Qv 9) (Qe Qt Go.BinOp.lss (Qn 8) (Qn 7))]
def f41_c3:MC:=.r0 f41_r3
def f41_r7:List MO:=[Qa (Qv 10) (Qj 1 (Qn 6) (Qn 8)),Qa (Qv 11) (Qf 1 false (Qn 10)),Qa (Qv 5) (Qd (Qn 11))]
def f41_c7:MC:=.r0 f41_r7
def f41_r8:List MO:=[Qa (Qv 12) (Qd (Qn 5)),Qa (Qv 13) (Qd (Qn 3)),Qa (Qv 14) (Qe Qt Go.BinOp.neq (Qn 12) (Qn 13))]
def f41_c8:MC:=.r0 f41_r8
def f41_r9:List MO:=[Qa (Qv 15) (Qd (Qn 5)),Qa (Qv 2) (Qd (Qn 15))]
def f41_c9:MC:=.r0 f41_r9
def f41_r17:List MO:=[Qa (Qv 16) (Qe Qt Go.BinOp.add (Qn 8) (Qo (Qp (Qq (Qr Qu 1))))),Qa (Qv 8) (Qd (Qn 16))]
def f41_c17:MC:=.r0 f41_r17
def f41_c18:MC:=.seq (.blk 1 (.seq f41_c7 (.seq f41_c8 (.cond (Qn 14) (.seq f41_c9 .ret) .skip)))) f41_c17
def f41_r24:List MO:=[Qa (Qv 17) (Qd (Qn 3)),Qa (Qv 2) (Qd (Qn 17))]
def f41_c24:MC:=.r0 f41_r24
def f41_c27:MC:=.seq (.seq f41_c2 (.blk 0 (.loop (.seq f41_c3 (.seq (.cond (Qn 9) .skip (MC.exit 0)) f41_c18))))) (.seq f41_c24 .ret)
def f41_c29:MC:=.seq f41_c0 (.seq f41_c1 f41_c27)
attribute [go_sem] f41_r0 f41_r1 f41_r2 f41_r3 f41_r7 f41_r8 f41_r9 f41_r17 f41_r24
theorem f41_k : KK QP 41 f41 [] f41_c29 [(RV.t 2)] 18 := by refine ⟨func41,?_,?_,?_,?_⟩<;>kernel_rfl
theorem f41_ok : callable QP 41 = true := by kernel_rfl
theorem f41_in (h : GI QP gp [(RV.t 2)] res 18 f41_c29 args) : Does QP gp 41 args res := f41_k.i f41_ok h
def f42_r0:List MO:=[Qa (Qv 4) (Qd (Qo (Qp (Qq (Qr Qu 0)))))]
def f42_c0:MC:=.r0 f42_r0
def f42_r1:List MO:=[Qa (Qv 7) (Qd (Qn 0)),Qa (Qv 8) (Qh 53 [(Qn 7)]),Qa (Qv 5) (Qd (Qn 8))]
def f42_c1:MC:=.r0 f42_r1
def f42_r2:List MO:=[Qa (Qv 9) (Qd (Qn 1)),Qa (Qv 10) (Qh 53 [(Qn 9)]),Qa (Qv 6) (Qd (Qn 10))]
def f42_c2:MC:=.r0 f42_r2
def f42_r3:List MO:=[Qa (Qv 11) (Qd (Qn 5))]
def f42_c3:MC:=.r0 f42_r3
def f42_r4:List MO:=[Qa (Qv 12) (Qd (Qn 6))]
def f42_c4:MC:=.r0 f42_r4
def f42_r5:List MO:=[Qa (Qv 4) (Qd (Qo (Qp (Qq (Qr Qu 0)))))]
def f42_c5:MC:=.r0 f42_r5
def f42_r11:List MO:=[Qa (Qv 4) (Qd (Qo (Qp (Qq (Qr Qu (-1))))))]
def f42_c11:MC:=.r0 f42_r11
def f42_c17:MC:=.seq f42_c3 (.cond (Qn 11) (.seq (.seq f42_c4 (.cond (Qn 12) (.seq f42_c5 .ret) .skip)) (.seq f42_c11 .ret)) .skip)
def f42_r18:List MO:=[Qa (Qv 13) (Qd (Qn 6))]
def f42_c18:MC:=.r0 f42_r18
def f42_r19:List MO:=[Qa (Qv 4) (Qd (Qo (Qp (Qq (Qr Qu 1)))))]
def f42_c19:MC:=.r0 f42_r19
def f42_r25:List MO:=[Qa (Qv 14) (Qd (Qn 0)),Qa (Qv 15) (Qd (Qn 1)),Qa (Qv 16) (Qe Qt Go.BinOp.lss (Qn 14) (Qn 15))]
def f42_c25:MC:=.r0 f42_r25
def f42_r26:List MO:=[Qa (Qv 4) (Qd (Qo (Qp (Qq (Qr Qu (-1))))))]
def f42_c26:MC:=.r0 f42_r26
def f42_r32:List MO:=[Qa (Qv 17) (Qd (Qn 0)),Qa (Qv 18) (Qd (Qn 1)),Qa (Qv 19) (Qe Qt Go.BinOp.gtr (Qn 17) (Qn 18))]
def f42_c32:MC:=.r0 f42_r32
def f42_r33:List MO:=[Qa (Qv 4) (Qd (Qo (Qp (Qq (Qr Qu 1)))))]
def f42_c33:MC:=.r0 f42_r33
def f42_r39:List MO:=[Qa (Qv 4) (Qd (Qo (Qp (Qq (Qr Qu 0)))))]
def f42_c39:MC:=.r0 f42_r39
def f42_c43:MC:=.seq (.seq f42_c25 (.cond (Qn 16) (.seq f42_c26 .ret) .skip)) (.seq (.seq f42_c32 (.cond (Qn 19) (.seq f42_c33 .ret) .skip)) (.seq f42_c39 .ret))
def f42_c45:MC:=.seq f42_c17 (.seq (.seq f42_c18 (.cond (Qn 13) (.seq f42_c19 .ret) .skip)) f42_c43)
def f42_c48:MC:=.seq f42_c0 (.seq f42_c1 (.seq f42_c2 f42_c45))
attribute [go_sem] f42_r0 f42_r1 f42_r2 f42_r3 f42_r4 f42_r5 f42_r11 f42_r18 f42_r19 f42_r25 f42_r26 f42_r32 f42_r33 f42_r39
theorem f42_k : KK QP 42 f42 [] f42_c48 [(RV.t 4)] 20 := by refine ⟨func42,?_,?_,?_,?_⟩<;>kernel_rfl
theorem f42_ok : callable QP 42 = true := by kernel_rfl
theorem f42_in (h : GI QP gp [(RV.t 4)] res 20 f42_c48 args) : Does QP gp 42 args res := f42_k.i f42_ok h
def f43_r0:List MO:=[Qa (Qv 4) (Qd (Qo (Qp (Qq (Qr Qu 0)))))]
def f43_c0:MC:=.r0 f43_r0
def f43_r1:List MO:=[Qa (Qv 7) (Qd (Qn 0)),Qa (Qv 8) (Qh 54 [(Qn 7)]),Qa (Qv 5) (Qd (Qn 8))]
def f43_c1:MC:=.r0 f43_r1
def f43_r2:List MO:=[Qa (Qv 9) (Qd (Qn 1)),Qa (Qv 10) (Qh 54 [(Qn 9)]),Qa (Qv 6) (Qd (Qn 10))]
def f43_c2:MC:=.r0 f43_r2
def f43_r3:List MO:=[Qa (Qv 11) (Qd (Qn 5))]
def f43_c3:MC:=.r0 f43_r3
def f43_r4:List MO:=[Qa (Qv 12) (Qd (Qn 6))]
def f43_c4:MC:=.r0 f43_r4
def f43_r5:List MO:=[Qa (Qv 4) (Qd (Qo (Qp (Qq (Qr Qu 0)))))]
def f43_c5:MC:=.r0 f43_r5
def f43_r11:List MO:=[Qa (Qv 4) (Qd (Qo (Qp (Qq (Qr Qu (-1))))))]
def f43_c11:MC:=.r0 f43_r11
def f43_c17:MC:=.seq f43_c3 (.cond (Qn 11) (.seq (.seq f43_c4 (.cond (Qn 12) (.seq f43_c5 .ret) .skip)) (.seq f43_c11 .ret)) .skip)
def f43_r18:List MO:=[Qa (Qv 13) (Qd (Qn 6))]
def f43_c18:MC:=.r0 f43_r18
def f43_r19:List MO:=[Qa (Qv 4) (Qd (Qo (Qp (Qq (Qr Qu 1)))))]
def f43_c19:MC:=.r0 f43_r19
def f43_r25:List MO:=[Qa (Qv 14) (Qd (Qn 0)),Qa (Qv 15) (Qd (Qn 1)),Qa (Qv 16) (Qe Leaf.s Go.BinOp.lss (Qn 14) (Qn 15))]
def f43_c25:MC:=.r0 f43_r25
def f43_r26:List MO:=[Qa (Qv 4) (Qd (Qo (Qp (Qq (Qr Qu (-1))))))]
def f43_c26:MC:=.r0 f43_r26
def f43_r32:List MO:=[Qa (Qv 17) (Qd (Qn 0)),Qa (Qv 18) (Qd (Qn 1)),Qa (Qv 19) (Qe Leaf.s Go.BinOp.gtr (Qn 17) (Qn 18))]
def f43_c32:MC:=.r0 f43_r32
def f43_r33:List MO:=[Qa (Qv 4) (Qd (Qo (Qp (Qq (Qr Qu 1)))))]
def f43_c33:MC:=.r0 f43_r33
def f43_r39:List MO:=[Qa (Qv 4) (Qd (Qo (Qp (Qq (Qr Qu 0)))))]
def f43_c39:MC:=.r0 f43_r39
def f43_c43:MC:=.seq (.seq f43_c25 (.cond (Qn 16) (.seq f43_c26 .ret) .skip)) (.seq (.seq f43_c32 (.cond (Qn 19) (.seq f43_c33 .ret) .skip)) (.seq f43_c39 .ret))
def f43_c45:MC:=.seq f43_c17 (.seq (.seq f43_c18 (.cond (Qn 13) (.seq f43_c19 .ret) .skip)) f43_c43)
def f43_c48:MC:=.seq f43_c0 (.seq f43_c1 (.seq f43_c2 f43_c45))
attribute [go_sem] f43_r0 f43_r1 f43_r2 f43_r3 f43_r4 f43_r5 f43_r11 f43_r18 f43_r19 f43_r25 f43_r26 f43_r32 f43_r33 f43_r39
theorem f43_k : KK QP 43 f43 [] f43_c48 [(RV.t 4)] 20 := by refine ⟨func43,?_,?_,?_,?_⟩<;>kernel_rfl
theorem f43_ok : callable QP 43 = true := by kernel_rfl
theorem f43_in (h : GI QP gp [(RV.t 4)] res 20 f43_c48 args) : Does QP gp 43 args res := f43_k.i f43_ok h
def f47_r0:List MO:=[Qa (Qv 2) (Qd (Qo (Qp (Qq (Qs false)))))]
def f47_c0:MC:=.r0 f47_r0
def f47_r1:List MO:=[Qa (Qv 3) (Qd (Qn 0)),Qa (Qv 4) (Qh 55 [(Qn 3),(Qo (Qp (Qq (Qs false))))]),Qa (Qv 5) (MOp.not (Qn 4)),Qa (Qv 2) (Qd (Qn 5))]
def f47_c1:MC:=.r0 f47_r1
def f47_c4:MC:=.seq f47_c0 (.seq f47_c1 .ret)
attribute [go_sem] f47_r0 f47_r1
theorem f47_k : KK QP 47 f47 [] f47_c4 [(RV.t 2)] 6 := by refine ⟨func47,?_,?_,?_,?_⟩<;>kernel_rfl
theorem f47_ok : callable QP 47 = true := by kernel_rfl
theorem f47_in (h : GI QP gp [(RV.t 2)] res 6 f47_c4 args) : Does QP gp 47 args res := f47_k.i f47_ok h
def f48_r0:List MO:=[Qa (Qv 1) (MOp.ibox (Qn 0)),Qa (Qv 2) (Qd (Qo (Qp (Qq (Qs false)))))]
def f48_c0:MC:=.r0 f48_r0
def f48_r1:List MO:=[Qa (Qv 3) (Qg 0 (Qn 1)),Qa (Qv 4) (Qf 1 false (Qn 3))]
def f48_c1:MC:=.r0 f48_r1
def f48_r2:List MO:=[Qa (Qv 6) (Qe Qt Go.BinOp.eql (Qn 4) (Qo (Qp (Qq (Qr Qu 0))))),Qa (Qv 5) (Qd (Qn 6))]
def f48_c2:MC:=.r0 f48_r2
def f48_r3:List MO:=[Qa (Qv 7) (Qf 3 true (Qn 1)),Qa (Qv 8) (MOp.build [(Qr Qu 0),(Qr Qu 0),(D.str (ByteArray.mk #[]))] []),Qa (Qv 9) (MOp.eqs false [Qt,Qt,Leaf.s] (Qn 7) (Qn 8)),Qa (Qv 2) (Qd (Qn 9))]
def f48_c3:MC:=.r0 f48_r3
def f48_r6:List MO:=[Qa (Qv 11) (Qe Qt Go.BinOp.eql (Qn 4) (Qo (Qp (Qq (Qr Qu 1))))),Qa (Qv 10) (Qd (Qn 11))]
def f48_c6:MC:=.r0 f48_r6
def f48_r7:List MO:=[Qa (Qv 12) (Qg 2 (Qn 1)),Qa (Qv 13) (Qf 1 false (Qn 12)),Qa (Qv 14) (Qe Leaf.s Go.BinOp.eql (Qn 13) (Qo (Qp (Qq (D.str (ByteArray.mk #[])))))),Qa (Qv 15) (Qd (Qn 14)),Qb 15 true (Qv 16),Qa (Qv 16) (Qg 1 (Qn 1)),Qb 15 true (Qv 17),Qa (Qv 17) (Qf 1 false (Qn 16)),Qb 15 true (Qv 18),Qa (Qv 18) (Qe Qt Go.BinOp.eql (Qn 17) (Qo (Qp (Qq (Qr Qu 0))))),Qb 15 true (Qv 19),Qa (Qv 19) (Qd (Qn 18)),Qb 19 false (Qv 20),Qa (Qv 20) (Qg 1 (Qn 1)),Qb 19 false (Qv 21),Qa (Qv 21) (Qf 1 false (Qn 20)),Qb 19 false (Qv 22),Qa (Qv 22) (Qe Qt Go.BinOp.eql (Qn 21) (Qo (Qp (Qq (Qr Qu 1))))),Qb 15 true (Qv 23),Qa (Qv 23) (Qm (Qn 19) (Qo (Qp (Qq (Qs true)))) (Qn 22)),Qa (Qv 24) (Qm (Qn 15) (Qn 23) (Qo (Qp (Qq (Qs false))))),Qa (Qv 2) (Qd (Qn 24))]
def f48_c7:MC:=.r0 f48_r7
def f48_r10:List MO:=[Qa (Qv 26) (Qe Qt Go.BinOp.eql (Qn 4) (Qo (Qp (Qq (Qr Qu 2))))),Qa (Qv 25) (Qd (Qn 26))]
def f48_c10:MC:=.r0 f48_r10
def f48_r11:List MO:=[Qa (Qv 27) (Qg 2 (Qn 1)),Qa (Qv 28) (Qf 1 false (Qn 27)),Qa (Qv 29) (Qe Leaf.s Go.BinOp.eql (Qn 28) (Qo (Qp (Qq (D.str (ByteArray.mk #[])))))),Qa (Qv 30) (Qd (Qn 29)),Qb 30 true (Qv 31),Qa (Qv 31) (Qg 1 (Qn 1)),Qb 30 true (Qv 32),Qa (Qv 32) (Qf 1 false (Qn 31)),Qb 30 true (Qv 33),Qa (Qv 33) (Qe Qt Go.BinOp.geq (Qn 32) (Qo (Qp (Qq (Qr Qu (-999999999999999)))))),Qa (Qv 34) (Qm (Qn 30) (Qn 33) (Qo (Qp (Qq (Qs false))))),Qa (Qv 35) (Qd (Qn 34)),Qb 35 true (Qv 36),Qa (Qv 36) (Qg 1 (Qn 1)),Qb 35 true (Qv 37),Qa (Qv 37) (Qf 1 false (Qn 36)),Qb 35 true (Qv 38),Qa (Qv 38) (Qe Qt Go.BinOp.leq (Qn 37) (Qo (Qp (Qq (Qr Qu 999999999999999))))),Qa (Qv 39) (Qm (Qn 35) (Qn 38) (Qo (Qp (Qq (Qs false))))),Qa (Qv 2) (Qd (Qn 39))]
def f48_c11:MC:=.r0 f48_r11
def f48_r14:List MO:=[Qa (Qv 41) (Qe Qt Go.BinOp.eql (Qn 4) (Qo (Qp (Qq (Qr Qu 3))))),Qa (Qv 40) (Qd (Qn 41))]
def f48_c14:MC:=.r0 f48_r14
def f48_r15:List MO:=[Qa (Qv 42) (Qg 1 (Qn 1)),Qa (Qv 43) (Qf 1 false (Qn 42)),Qa (Qv 44) (Qe Qt Go.BinOp.eql (Qn 43) (Qo (Qp (Qq (Qr Qu 0))))),Qa (Qv 45) (Qd (Qn 44)),Qb 45 true (Qv 46),Qa (Qv 46) (Qg 2 (Qn 1)),Qb 45 true (Qv 47),Qa (Qv 47) (Qf 1 false (Qn 46)),Qb 45 true (Qv 48),Qa (Qv 48) (Qh 56 [(Qn 47)]),Qa (Qv 49) (Qm (Qn 45) (Qn 48) (Qo (Qp (Qq (Qs false))))),Qa (Qv 2) (Qd (Qn 49))]
def f48_c15:MC:=.r0 f48_r15
def f48_c22:MC:=.seq f48_c10 (.cond (Qn 25) (.seq f48_c11 .ret) (.seq f48_c14 (.cond (Qn 40) (.seq f48_c15 .ret) .skip)))
def f48_c25:MC:=.cond (Qn 5) (.seq f48_c3 .ret) (.seq f48_c6 (.cond (Qn 10) (.seq f48_c7 .ret) f48_c22))
def f48_r29:List MO:=[Qa (Qv 2) (Qd (Qo (Qp (Qq (Qs false)))))]
def f48_c29:MC:=.r0 f48_r29
def f48_c32:MC:=.seq (.seq f48_c1 (.blk 0 (.seq f48_c2 f48_c25))) (.seq f48_c29 .ret)
def f48_c33:MC:=.seq f48_c0 f48_c32
attribute [go_sem] f48_r0 f48_r1 f48_r2 f48_r3 f48_r6 f48_r7 f48_r10 f48_r11 f48_r14 f48_r15 f48_r29
theorem f48_k : KK QP 48 f48 [1] f48_c33 [(RV.t 2)] 50 := by refine ⟨func48,?_,?_,?_,?_⟩<;>kernel_rfl
theorem f48_ok : callable QP 48 = true := by kernel_rfl
theorem f48_in (h : GI QP gp [(RV.t 2)] res 50 f48_c33 args) : Does QP gp 48 args res := f48_k.i f48_ok h
def f49_r0:List MO:=[Qa (Qv 1) (MOp.ibox (Qn 0)),Qa (Qv 2) (Qd (Qo (Qp (Qq (Qs false)))))]
def f49_c0:MC:=.r0 f49_r0
def f49_r1:List MO:=[Qa (Qv 4) (MOp.mkF (Go.Fn.func 57) [(Qn 1)]),Qa (Qv 3) (Qd (Qn 4))]
def f49_c1:MC:=.r0 f49_r1
def f49_r2:List MO:=[Qa (Qv 5) (Qg 0 (Qn 1)),Qa (Qv 6) (Qg 5 (Qn 5)),Qa (Qv 7) (Qf 1 false (Qn 6)),Qa (Qv 8) (Qd (Qn 3)),Qa (Qv 9) (Qh 58 [(Qn 7),(Qn 8)]),Qa (Qv 10) (MOp.not (Qn 9)),Qa (Qv 2) (Qd (Qn 10))]
def f49_c2:MC:=.r0 f49_r2
def f49_c6:MC:=.seq f49_c0 (.seq f49_c1 (.seq f49_c2 .ret))
attribute [go_sem] f49_r0 f49_r1 f49_r2
theorem f49_k : KK QP 49 f49 [1] f49_c6 [(RV.t 2)] 11 := by refine ⟨func49,?_,?_,?_,?_⟩<;>kernel_rfl
theorem f49_ok : callable QP 49 = true := by kernel_rfl
theorem f49_in (h : GI QP gp [(RV.t 2)] res 11 f49_c6 args) : Does QP gp 49 args res := f49_k.i f49_ok h
def f50_r0:List MO:=[Qa (Qv 1) (MOp.ibox (Qn 0)),Qa (Qv 2) (Qd (Qo (Qp (Qq (Qs false)))))]
def f50_c0:MC:=.r0 f50_r0
def f50_r1:List MO:=[Qa (Qv 3) (Qd (Qo (Qp (Qq (D.fn (Go.Fn.func 59) [])))))]
def f50_c1:MC:=.r0 f50_r1
def f50_r2:List MO:=[Qa (Qv 4) (Qg 0 (Qn 1)),Qa (Qv 5) (Qg 4 (Qn 4)),Qa (Qv 6) (Qf 1 false (Qn 5)),Qa (Qv 7) (Qd (Qn 3)),Qa (Qv 8) (Qh 60 [(Qn 6),(Qn 7)]),Qa (Qv 9) (MOp.not (Qn 8)),Qa (Qv 10) (Qd (Qn 9)),Qb 10 true (Qv 11),Qa (Qv 11) (Qg 0 (Qn 1)),Qb 10 true (Qv 12),Qa (Qv 12) (Qg 4 (Qn 11)),Qb 10 true (Qv 13),Qa (Qv 13) (Qf 1 false (Qn 12)),Qb 10 true (Qv 14),Qa (Qv 14) (Qh 61 [(Qn 13)]),Qb 10 true (Qv 15),Qa (Qv 15) (MOp.not (Qn 14)),Qa (Qv 16) (Qm (Qn 10) (Qn 15) (Qo (Qp (Qq (Qs false))))),Qa (Qv 2) (Qd (Qn 16))]
def f50_c2:MC:=.r0 f50_r2
def f50_c6:MC:=.seq f50_c0 (.seq f50_c1 (.seq f50_c2 .ret))
attribute [go_sem] f50_r0 f50_r1 f50_r2
theorem f50_k : KK QP 50 f50 [1] f50_c6 [(RV.t 2)] 17 := by refine ⟨func50,?_,?_,?_,?_⟩<;>kernel_rfl
theorem f50_ok : callable QP 50 = true := by kernel_rfl
theorem f50_in (h : GI QP gp [(RV.t 2)] res 17 f50_c6 args) : Does QP gp 50 args res := f50_k.i f50_ok h
def f51_r0:List MO:=[Qa (Qv 10) (Qd (Qn 1)),Qa (Qv 11) (Qe Qt Go.BinOp.add (Qn 10) (Qo (Qp (Qq (Qr Qu 1))))),Qa (Qv 8) (Qd (Qn 11))]
def f51_c0:MC:=.r0 f51_r0
def f51_r1:List MO:=[Qa (Qv 12) (Qd (Qn 8)),Qa (Qv 13) (Qd (Qn 2)),Qa (Qv 14) (Qe Qt Go.BinOp.lss (Qn 12) (Qn 13))]
def f51_c1:MC:=.r0 f51_r1
def f51_r6:List MO:=[Qa (Qv 17) (Qd (Qn 8)),Qa (Qv 9) (Qd (Qn 17))]
def f51_c6:MC:=.r0 f51_r6
def f51_r7:List MO:=[Qa (Qv 18) (Qd (Qn 9)),Qa (Qv 19) (Qd (Qn 1)),Qa (Qv 20) (Qe Qt Go.BinOp.gtr (Qn 18) (Qn 19)),Qa (Qv 21) (Qd (Qn 20)),Qb 21 true (Qv 22),Qa (Qv 22) (Qd (Qn 3)),Qb 21 true (Qv 23),Qa (Qv 23) (Qd (Qn 0)),Qb 21 true (Qv 24),Qa (Qv 24) (Qd (Qn 9)),Qb 21 true (Qv 25),Qa (Qv 25) (Qj 4 (Qn 23) (Qn 24)),Qb 21 true (Qv 26),Qa (Qv 26) (Qf 4 true (Qn 25)),Qb 21 true (Qv 27),Qa (Qv 27) (Qd (Qn 0)),Qb 21 true (Qv 28),Qa (Qv 28) (Qd (Qn 9)),Qb 21 true (Qv 29),Qa (Qv 29) (Qe Qt Go.BinOp.sub (Qn 28) (Qo (Qp (Qq (Qr Qu 1))))),Qb 21 true (Qv 30),Qa (Qv 30) (Qj 4 (Qn 27) (Qn 29)),Qb 21 true (Qv 31),Qa (Qv 31) (Qf 4 true (Qn 30)),Qb 21 true (Qv 32),Qc (Qv 32) (MOp.callv (Qn 22) [(Qn 26),(Qn 31)]),Qb 21 true (Qv 33),Qa (Qv 33) (Qe Qt Go.BinOp.lss (Qn 32) (Qo (Qp (Qq (Qr Qu 0))))),Qa (Qv 34) (Qm (Qn 21) (Qn 33) (Qo (Qp (Qq (Qs false)))))]
def f51_c7:MC:=.reg true f51_r7
def f51_r12:List MO:=[Qa (Qv 37) (Qd (Qn 0)),Qa (Qv 38) (Qd (Qn 9)),Qa (Qv 39) (Qd (Qn 0)),Qa (Qv 40) (Qd (Qn 9)),Qa (Qv 41) (Qe Qt Go.BinOp.sub (Qn 40) (Qo (Qp (Qq (Qr Qu 1))))),Qa (Qv 42) (Qd (Qn 0)),Qa (Qv 43) (Qd (Qn 9)),Qa (Qv 44) (Qe Qt Go.BinOp.sub (Qn 43) (Qo (Qp (Qq (Qr Qu 1))))),Qa (Qv 45) (Qj 4 (Qn 42) (Qn 44)),Qa (Qv 46) (Qf 4 true (Qn 45)),Qa (Qv 47) (Qd (Qn 0)),Qa (Qv 48) (Qd (Qn 9)),Qa (Qv 49) (Qj 4 (Qn 47) (Qn 48)),Qa (Qv 50) (Qf 4 true (Qn 49)),Qa (Qv 51) (Qj 4 (Qn 37) (Qn 38)),Qa none (Ql 4 (Qn 51) (Qn 46)),Qa (Qv 52) (Qj 4 (Qn 39) (Qn 41)),Qa none (Ql 4 (Qn 52) (Qn 50))]
def f51_c12:MC:=.reg true f51_r12
def f51_r14:List MO:=[Qa (Qv 35) (Qd (Qn 9)),Qa (Qv 36) (Qe Qt Go.BinOp.sub (Qn 35) (Qo (Qp (Qq (Qr Qu 1))))),Qa (Qv 9) (Qd (Qn 36))]
def f51_c14:MC:=.r0 f51_r14
def f51_c19:MC:=.seq f51_c6 (.blk 2 (.loop (.seq (.seq f51_c7 (.cond (Qn 34) .skip (MC.exit 2))) (.seq (.blk 3 f51_c12) f51_c14))))
def f51_r21:List MO:=[Qa (Qv 15) (Qd (Qn 8)),Qa (Qv 16) (Qe Qt Go.BinOp.add (Qn 15) (Qo (Qp (Qq (Qr Qu 1))))),Qa (Qv 8) (Qd (Qn 16))]
def f51_c21:MC:=.r0 f51_r21
def f51_c26:MC:=.seq f51_c0 (.blk 0 (.loop (.seq (.seq f51_c1 (.cond (Qn 14) .skip (MC.exit 0))) (.seq (.blk 1 f51_c19) f51_c21))))
attribute [go_sem] f51_r0 f51_r1 f51_r6 f51_r7 f51_r12 f51_r14 f51_r21
theorem f51_k : KK QP 51 f51 [] f51_c26 [] 53 := by refine ⟨func51,?_,?_,?_,?_⟩<;>kernel_rfl
theorem f51_ok : callable QP 51 = true := by kernel_rfl
theorem f51_tri (h : GT QP gp [] pre R 53 f51_c26 args) : Tri QP gp 51 args pre R := f51_k.t h
def f53_r0:List MO:=[Qa (Qv 2) (Qd (Qo (Qp (Qq (Qs false)))))]
def f53_c0:MC:=.r0 f53_r0
def f53_r1:List MO:=[Qa (Qv 3) (Qd (Qn 0)),Qa (Qv 4) (Qd (Qn 0)),Qa (Qv 5) (Qe Qt Go.BinOp.neq (Qn 3) (Qn 4)),Qa (Qv 2) (Qd (Qn 5))]
def f53_c1:MC:=.r0 f53_r1
def f53_c4:MC:=.seq f53_c0 (.seq f53_c1 .ret)
attribute [go_sem] f53_r0 f53_r1
theorem f53_k : KK QP 53 f53 [] f53_c4 [(RV.t 2)] 6 := by refine ⟨func53,?_,?_,?_,?_⟩<;>kernel_rfl
theorem f53_ok : callable QP 53 = true := by kernel_rfl
theorem f53_in (h : GI QP gp [(RV.t 2)] res 6 f53_c4 args) : Does QP gp 53 args res := f53_k.i f53_ok h
def f54_r0:List MO:=[Qa (Qv 2) (Qd (Qo (Qp (Qq (Qs false)))))]
def f54_c0:MC:=.r0 f54_r0
def f54_r1:List MO:=[Qa (Qv 3) (Qd (Qn 0)),Qa (Qv 4) (Qd (Qn 0)),Qa (Qv 5) (Qe Leaf.s Go.BinOp.neq (Qn 3) (Qn 4)),Qa (Qv 2) (Qd (Qn 5))]
def f54_c1:MC:=.r0 f54_r1
def f54_c4:MC:=.seq f54_c0 (.seq f54_c1 .ret)
attribute [go_sem] f54_r0 f54_r1
theorem f54_k : KK QP 54 f54 [] f54_c4 [(RV.t 2)] 6 := by refine ⟨func54,?_,?_,?_,?_⟩<;>kernel_rfl
theorem f54_ok : callable QP 54 = true := by kernel_rfl
theorem f54_in (h : GI QP gp [(RV.t 2)] res 6 f54_c4 args) : Does QP gp 54 args res := f54_k.i f54_ok h
def f55_r0:List MO:=[Qa (Qv 4) (Qd (Qo (Qp (Qq (Qs false)))))]
def f55_c0:MC:=.r0 f55_r0
def f55_r1:List MO:=[Qa (Qv 5) (Qd (Qn 0)),Qa (Qv 6) (Qd (Qn 1)),Qa (Qv 7) (Qh 63 [(Qn 5),(Qn 6)]),Qa (Qv 8) (Qe Qt Go.BinOp.geq (Qn 7) (Qo (Qp (Qq (Qr Qu 0))))),Qa (Qv 4) (Qd (Qn 8))]
def f55_c1:MC:=.r0 f55_r1
def f55_c4:MC:=.seq f55_c0 (.seq f55_c1 .ret)
attribute [go_sem] f55_r0 f55_r1
theorem f55_k : KK QP 55 f55 [] f55_c4 [(RV.t 4)] 9 := by refine ⟨func55,?_,?_,?_,?_⟩<;>kernel_rfl
theorem f55_ok : callable QP 55 = true := by kernel_rfl
theorem f55_in (h : GI QP gp [(RV.t 4)] res 9 f55_c4 args) : Does QP gp 55 args res := f55_k.i f55_ok h
def f56_r0:List MO:=[Qa (Qv 2) (Qd (Qo (Qp (Qq (Qs false)))))]
def f56_c0:MC:=.r0 f56_r0
def f56_r1:List MO:=[Qa (Qv 7) (Qd (Qn 0)),Qa (Qv 8) (MOp.rng (Qn 7))]
def f56_c1:MC:=.r0 f56_r1
def f56_r2:List MO:=[Qa (Qv 9) (MOp.nxt (Qn 8)),Qa (Qv 10) (Qi (Qn 9) 0)]
def f56_c2:MC:=.r0 f56_r2
def f56_r6:List MO:=[Qa (Qv 11) (Qi (Qn 9) 1),Qa (Qv 12) (Qi (Qn 9) 2),Qa (Qv 3) (Qd (Qn 11)),Qa (Qv 4) (Qd (Qn 12))]
def f56_c6:MC:=.r0 f56_r6
def f56_r7:List MO:=[Qa (Qv 14) (Qd (Qn 0)),Qa (Qv 15) (Qd (Qn 3)),Qa (Qv 16) (MOp.slcS (Qn 14) (Qv (Qn 15)) none),Qa (Qv 17) (Qh 64 [(Qn 16)]),Qa (Qv 13) (Qd (Qn 17)),Qa (Qv 18) (Qi (Qn 13) 0),Qa (Qv 19) (Qi (Qn 13) 1),Qa (Qv 5) (Qd (Qn 18)),Qa (Qv 6) (Qd (Qn 19))]
def f56_c7:MC:=.r0 f56_r7
def f56_r8:List MO:=[Qa (Qv 20) (Qd (Qn 4)),Qa (Qv 21) (Qe Qt Go.BinOp.eql (Qn 20) (Qo (Qp (Qq (Qr Go.IntKind.i32 65533))))),Qa (Qv 22) (Qd (Qn 21)),Qb 22 true (Qv 23),Qa (Qv 23) (Qd (Qn 6)),Qb 22 true (Qv 24),Qa (Qv 24) (Qe Qt Go.BinOp.eql (Qn 23) (Qo (Qp (Qq (Qr Qu 1))))),Qa (Qv 25) (Qm (Qn 22) (Qn 24) (Qo (Qp (Qq (Qs false)))))]
def f56_c8:MC:=.r0 f56_r8
def f56_r9:List MO:=[Qa (Qv 2) (Qd (Qo (Qp (Qq (Qs false)))))]
def f56_c9:MC:=.r0 f56_r9
def f56_c16:MC:=.seq f56_c6 (.seq f56_c7 (.seq f56_c8 (.cond (Qn 25) (.seq f56_c9 .ret) .skip)))
def f56_r23:List MO:=[Qa (Qv 2) (Qd (Qo (Qp (Qq (Qs true)))))]
def f56_c23:MC:=.r0 f56_r23
def f56_c26:MC:=.seq (.seq f56_c1 (.blk 0 (.loop (.seq f56_c2 (.seq (.cond (Qn 10) .skip (MC.exit 0)) (.blk 1 f56_c16)))))) (.seq f56_c23 .ret)
def f56_c27:MC:=.seq f56_c0 f56_c26
attribute [go_sem] f56_r0 f56_r1 f56_r2 f56_r6 f56_r7 f56_r8 f56_r9 f56_r23
theorem f56_k : KK QP 56 f56 [] f56_c27 [(RV.t 2)] 26 := by refine ⟨func56,?_,?_,?_,?_⟩<;>kernel_rfl
theorem f56_ok : callable QP 56 = true := by kernel_rfl
theorem f56_in (h : GI QP gp [(RV.t 2)] res 26 f56_c27 args) : Does QP gp 56 args res := f56_k.i f56_ok h
def f57_r0:List MO:=[Qa (Qv 3) (Qd (Qo (Qp (Qq (Qs false)))))]
def f57_c0:MC:=.r0 f57_r0
def f57_r1:List MO:=[Qa (Qv 4) (Qd (Qn 0)),Qa (Qv 5) (Qe Qt Go.BinOp.lss (Qn 4) (Qo (Qp (Qq (Qr Qu 0))))),Qa (Qv 6) (Qd (Qn 5)),Qb 6 false (Qv 7),Qa (Qv 7) (Qd (Qn 0)),Qb 6 false (Qv 8),Qa (Qv 8) (Qg 6 (Qn 1)),Qb 6 false (Qv 9),Qa (Qv 9) (Qf 1 false (Qn 8)),Qb 6 false (Qv 10),Qa (Qv 10) (Qe Qt Go.BinOp.geq (Qn 7) (Qn 9)),Qa (Qv 11) (Qm (Qn 6) (Qo (Qp (Qq (Qs true)))) (Qn 10)),Qa (Qv 3) (Qd (Qn 11))]
def f57_c1:MC:=.r0 f57_r1
def f57_c4:MC:=.seq f57_c0 (.seq f57_c1 .ret)
attribute [go_sem] f57_r0 f57_r1
theorem f57_k : KK QP 57 f57 [] f57_c4 [(RV.t 3)] 12 := by refine ⟨func57,?_,?_,?_,?_⟩<;>kernel_rfl
theorem f57_ok : callable QP 57 = true := by kernel_rfl
theorem f57_in (h : GI QP gp [(RV.t 3)] res 12 f57_c4 args) : Does QP gp 57 args res := f57_k.i f57_ok h
def f58_r0:List MO:=[Qa (Qv 4) (Qd (Qo (Qp (Qq (Qs false)))))]
def f58_c0:MC:=.r0 f58_r0
def f58_r1:List MO:=[Qa (Qv 5) (Qd (Qn 0)),Qa (Qv 6) (Qd (Qn 1)),Qa (Qv 7) (Qh 65 [(Qn 5),(Qn 6)]),Qa (Qv 8) (Qe Qt Go.BinOp.geq (Qn 7) (Qo (Qp (Qq (Qr Qu 0))))),Qa (Qv 4) (Qd (Qn 8))]
def f58_c1:MC:=.r0 f58_r1
def f58_c4:MC:=.seq f58_c0 (.seq f58_c1 .ret)
attribute [go_sem] f58_r0 f58_r1
theorem f58_k : KK QP 58 f58 [] f58_c4 [(RV.t 4)] 9 := by refine ⟨func58,?_,?_,?_,?_⟩<;>kernel_rfl
theorem f58_ok : callable QP 58 = true := by kernel_rfl
theorem f58_in (h : GI QP gp [(RV.t 4)] res 9 f58_c4 args) : Does QP gp 58 args res := f58_k.i f58_ok h
def f59_r0:List MO:=[Qa (Qv 1) (MOp.ibox (Qn 0)),Qa (Qv 2) (Qd (Qo (Qp (Qq (Qs false)))))]
def f59_c0:MC:=.r0 f59_r0
def f59_r1:List MO:=[Qa (Qv 3) (Qf 3 true (Qn 1)),Qa (Qv 4) (Qh 48 [(Qn 3)]),Qa (Qv 5) (MOp.not (Qn 4)),Qa (Qv 2) (Qd (Qn 5))]
def f59_c1:MC:=.r0 f59_r1
def f59_c4:MC:=.seq f59_c0 (.seq f59_c1 .ret)
attribute [go_sem] f59_r0 f59_r1
theorem f59_k : KK QP 59 f59 [1] f59_c4 [(RV.t 2)] 6 := by refine ⟨func59,?_,?_,?_,?_⟩<;>kernel_rfl
theorem f59_ok : callable QP 59 = true := by kernel_rfl
theorem f59_in (h : GI QP gp [(RV.t 2)] res 6 f59_c4 args) : Does QP gp 59 args res := f59_k.i f59_ok h
def f60_r0:List MO:=[Qa (Qv 4) (Qd (Qo (Qp (Qq (Qs false)))))]
def f60_c0:MC:=.r0 f60_r0
def f60_r1:List MO:=[Qa (Qv 5) (Qd (Qn 0)),Qa (Qv 6) (Qd (Qn 1)),Qa (Qv 7) (Qh 66 [(Qn 5),(Qn 6)]),Qa (Qv 8) (Qe Qt Go.BinOp.geq (Qn 7) (Qo (Qp (Qq (Qr Qu 0))))),Qa (Qv 4) (Qd (Qn 8))]
def f60_c1:MC:=.r0 f60_r1
def f60_c4:MC:=.seq f60_c0 (.seq f60_c1 .ret)
attribute [go_sem] f60_r0 f60_r1
theorem f60_k : KK QP 60 f60 [] f60_c4 [(RV.t 4)] 9 := by refine ⟨func60,?_,?_,?_,?_⟩<;>kernel_rfl
theorem f60_ok : callable QP 60 = true := by kernel_rfl
theorem f60_in (h : GI QP gp [(RV.t 4)] res 9 f60_c4 args) : Does QP gp 60 args res := f60_k.i f60_ok h
def f61_r0:List MO:=[Qa (Qv 2) (Qd (Qo (Qp (Qq (Qs false)))))]
def f61_c0:MC:=.r0 f61_r0
def f61_r1:List MO:=[Qa (Qv 3) (MOp.alloc [(Qr Qu 0)]),Qa none (Ql 1 (Qn 3) (Qo (Qp (Qq (Qr Qu 0)))))]
def f61_c1:MC:=.r0 f61_r1
def f61_r2:List MO:=[Qa (Qv 4) (Qd (Qn 0)),Qa (Qv 5) (Qh 67 [(Qn 4)])]
def f61_c2:MC:=.r0 f61_r2
def f61_r4:List MO:=[Qa (Qv 7) (Qf 1 false (Qn 3)),Qa (Qv 8) (Qe Qt Go.BinOp.add (Qn 7) (Qo (Qp (Qq (Qr Qu 1))))),Qa none (Ql 1 (Qn 3) (Qn 8))]
def f61_c4:MC:=.r0 f61_r4
def f61_c6:MC:=.rf (Qn 5) [6] .skip (.blk 1 f61_c4)
def f61_r9:List MO:=[Qa (Qv 9) (Qf 1 false (Qn 3)),Qa (Qv 10) (Qd (Qn 0)),Qa (Qv 11) (Qk Qt (Qn 10)),Qa (Qv 12) (Qe Qt Go.BinOp.lss (Qn 9) (Qn 11)),Qa (Qv 2) (Qd (Qn 12))]
def f61_c9:MC:=.r0 f61_r9
def f61_c13:MC:=.seq f61_c1 (.seq (.seq f61_c2 (.blk 0 f61_c6)) (.seq f61_c9 .ret))
def f61_c14:MC:=.seq f61_c0 f61_c13
attribute [go_sem] f61_r0 f61_r1 f61_r2 f61_r4 f61_r9
theorem f61_k : KK QP 61 f61 [] f61_c14 [(RV.t 2)] 13 := by refine ⟨func61,?_,?_,?_,?_⟩<;>kernel_rfl
theorem f61_ok : callable QP 61 = true := by kernel_rfl
theorem f61_in (h : GI QP gp [(RV.t 2)] res 13 f61_c14 args) : Does QP gp 61 args res := f61_k.i f61_ok h
def f63_r0:List MO:=[Qa (Qv 4) (Qd (Qo (Qp (Qq (Qr Qu 0)))))]
def f63_c0:MC:=.r0 f63_r0
def f63_r1:List MO:=[Qa (Qv 6) (Qd (Qn 0)),Qa (Qv 7) (Qk Qt (Qn 6)),Qa (Qv 8) (Qd (Qo (Qp (Qq (Qr Qu 0)))))]
def f63_c1:MC:=.r0 f63_r1
def f63_r2:List MO:=[Qa (Qv 9) (Qe Qt Go.BinOp.lss (Qn 8) (Qn 7))]
def f63_c2:MC:=.r0 f63_r2
def f63_r6:List MO:=[Qa (Qv 10) (Qd (Qn 8)),Qa (Qv 5) (Qd (Qn 10))]
def f63_c6:MC:=.r0 f63_r6
def f63_r7:List MO:=[Qa (Qv 11) (Qd (Qn 1)),Qa (Qv 12) (Qd (Qn 0)),Qa (Qv 13) (Qd (Qn 5)),Qa (Qv 14) (Qj 1 (Qn 12) (Qn 13)),Qa (Qv 15) (Qf 1 false (Qn 14)),Qa (Qv 16) (Qe Leaf.b Go.BinOp.eql (Qn 11) (Qn 15))]
def f63_c7:MC:=.r0 f63_r7
def f63_r8:List MO:=[Qa (Qv 17) (Qd (Qn 5)),Qa (Qv 4) (Qd (Qn 17))]
def f63_c8:MC:=.r0 f63_r8
def f63_r16:List MO:=[Qa (Qv 18) (Qe Qt Go.BinOp.add (Qn 8) (Qo (Qp (Qq (Qr Qu 1))))),Qa (Qv 8) (Qd (Qn 18))]
def f63_c16:MC:=.r0 f63_r16
def f63_c17:MC:=.seq (.blk 1 (.seq f63_c6 (.seq f63_c7 (.cond (Qn 16) (.seq f63_c8 .ret) .skip)))) f63_c16
def f63_r23:List MO:=[Qa (Qv 4) (Qd (Qo (Qp (Qq (Qr Qu (-1))))))]
def f63_c23:MC:=.r0 f63_r23
def f63_c26:MC:=.seq (.seq f63_c1 (.blk 0 (.loop (.seq f63_c2 (.seq (.cond (Qn 9) .skip (MC.exit 0)) f63_c17))))) (.seq f63_c23 .ret)
def f63_c27:MC:=.seq f63_c0 f63_c26
attribute [go_sem] f63_r0 f63_r1 f63_r2 f63_r6 f63_r7 f63_r8 f63_r16 f63_r23
theorem f63_k : KK QP 63 f63 [] f63_c27 [(RV.t 4)] 19 := by refine ⟨func63,?_,?_,?_,?_⟩<;>kernel_rfl
theorem f63_ok : callable QP 63 = true := by kernel_rfl
theorem f63_in (h : GI QP gp [(RV.t 4)] res 19 f63_c27 args) : Does QP gp 63 args res := f63_k.i f63_ok h
def f65_r0:List MO:=[Qa (Qv 4) (Qd (Qo (Qp (Qq (Qr Qu 0)))))]
def f65_c0:MC:=.r0 f65_r0
def f65_r1:List MO:=[Qa (Qv 6) (Qd (Qn 0)),Qa (Qv 7) (Qk Qt (Qn 6)),Qa (Qv 8) (Qd (Qo (Qp (Qq (Qr Qu 0)))))]
def f65_c1:MC:=.r0 f65_r1
def f65_r2:List MO:=[Qa (Qv 9) (Qe Qt Go.BinOp.lss (Qn 8) (Qn 7))]
def f65_c2:MC:=.r0 f65_r2
def f65_r6:List MO:=[Qa (Qv 10) (Qd (Qn 8)),Qa (Qv 5) (Qd (Qn 10))]
def f65_c6:MC:=.r0 f65_r6
def f65_r7:List MO:=[Qa (Qv 11) (Qd (Qn 1)),Qa (Qv 12) (Qd (Qn 0)),Qa (Qv 13) (Qd (Qn 5)),Qa (Qv 14) (Qj 1 (Qn 12) (Qn 13)),Qa (Qv 15) (Qf 1 false (Qn 14)),Qa (Qv 16) (MOp.callv (Qn 11) [(Qn 15)])]
def f65_c7:MC:=.r0 f65_r7
def f65_r8:List MO:=[Qa (Qv 17) (Qd (Qn 5)),Qa (Qv 4) (Qd (Qn 17))]
def f65_c8:MC:=.r0 f65_r8
def f65_r16:List MO:=[Qa (Qv 18) (Qe Qt Go.BinOp.add (Qn 8) (Qo (Qp (Qq (Qr Qu 1))))),Qa (Qv 8) (Qd (Qn 18))]
def f65_c16:MC:=.r0 f65_r16
def f65_c17:MC:=.seq (.blk 1 (.seq f65_c6 (.seq f65_c7 (.cond (Qn 16) (.seq f65_c8 .ret) .skip)))) f65_c16
def f65_r23:List MO:=[Qa (Qv 4) (Qd (Qo (Qp (Qq (Qr Qu (-1))))))]
def f65_c23:MC:=.r0 f65_r23
def f65_c26:MC:=.seq (.seq f65_c1 (.blk 0 (.loop (.seq f65_c2 (.seq (.cond (Qn 9) .skip (MC.exit 0)) f65_c17))))) (.seq f65_c23 .ret)
def f65_c27:MC:=.seq f65_c0 f65_c26
attribute [go_sem] f65_r0 f65_r1 f65_r2 f65_r6 f65_r7 f65_r8 f65_r16 f65_r23
theorem f65_k : KK QP 65 f65 [] f65_c27 [(RV.t 4)] 19 := by refine ⟨func65,?_,?_,?_,?_⟩<;>kernel_rfl
theorem f65_ok : callable QP 65 = true := by kernel_rfl
theorem f65_in (h : GI QP gp [(RV.t 4)] res 19 f65_c27 args) : Does QP gp 65 args res := f65_k.i f65_ok h
def f66_r0:List MO:=[Qa (Qv 4) (Qd (Qo (Qp (Qq (Qr Qu 0)))))]
def f66_c0:MC:=.r0 f66_r0
def f66_r1:List MO:=[Qa (Qv 6) (Qd (Qn 0)),Qa (Qv 7) (Qk Qt (Qn 6)),Qa (Qv 8) (Qd (Qo (Qp (Qq (Qr Qu 0)))))]
def f66_c1:MC:=.r0 f66_r1
def f66_r2:List MO:=[Qa (Qv 9) (Qe Qt Go.BinOp.lss (Qn 8) (Qn 7))]
def f66_c2:MC:=.r0 f66_r2
def f66_r6:List MO:=[Qa (Qv 10) (Qd (Qn 8)),Qa (Qv 5) (Qd (Qn 10))]
def f66_c6:MC:=.r0 f66_r6
def f66_r7:List MO:=[Qa (Qv 11) (Qd (Qn 1)),Qa (Qv 12) (Qd (Qn 0)),Qa (Qv 13) (Qd (Qn 5)),Qa (Qv 14) (Qj 3 (Qn 12) (Qn 13)),Qa (Qv 15) (Qf 3 true (Qn 14)),Qa (Qv 16) (MOp.callv (Qn 11) [(Qn 15)])]
def f66_c7:MC:=.r0 f66_r7
def f66_r8:List MO:=[Qa (Qv 17) (Qd (Qn 5)),Qa (Qv 4) (Qd (Qn 17))]
def f66_c8:MC:=.r0 f66_r8
def f66_r16:List MO:=[Qa (Qv 18) (Qe Qt Go.BinOp.add (Qn 8) (Qo (Qp (Qq (Qr Qu 1))))),Qa (Qv 8) (Qd (Qn 18))]
def f66_c16:MC:=.r0 f66_r16
def f66_c17:MC:=.seq (.blk 1 (.seq f66_c6 (.seq f66_c7 (.cond (Qn 16) (.seq f66_c8 .ret) .skip)))) f66_c16
def f66_r23:List MO:=[Qa (Qv 4) (Qd (Qo (Qp (Qq (Qr Qu (-1))))))]
def f66_c23:MC:=.r0 f66_r23
def f66_c26:MC:=.seq (.seq f66_c1 (.blk 0 (.loop (.seq f66_c2 (.seq (.cond (Qn 9) .skip (MC.exit 0)) f66_c17))))) (.seq f66_c23 .ret)
def f66_c27:MC:=.seq f66_c0 f66_c26
attribute [go_sem] f66_r0 f66_r1 f66_r2 f66_r6 f66_r7 f66_r8 f66_r16 f66_r23
theorem f66_k : KK QP 66 f66 [] f66_c27 [(RV.t 4)] 19 := by refine ⟨func66,?_,?_,?_,?_⟩<;>kernel_rfl
theorem f66_ok : callable QP 66 = true := by kernel_rfl
theorem f66_in (h : GI QP gp [(RV.t 4)] res 19 f66_c27 args) : Does QP gp 66 args res := f66_k.i f66_ok h
def f67_r0:List MO:=[Qa (Qv 1) (MOp.ibox (Qn 0)),Qa (Qv 2) (Qd (Qo (Qp (Qq D.nilF))))]
def f67_c0:MC:=.r0 f67_r0
def f67_r1:List MO:=[Qa (Qv 3) (MOp.mkF (Go.Fn.func 70) [(Qn 1)]),Qa (Qv 2) (Qd (Qn 3))]
def f67_c1:MC:=.r0 f67_r1
def f67_c4:MC:=.seq f67_c0 (.seq f67_c1 .ret)
attribute [go_sem] f67_r0 f67_r1
theorem f67_k : KK QP 67 f67 [1] f67_c4 [(RV.t 2)] 4 := by refine ⟨func67,?_,?_,?_,?_⟩<;>kernel_rfl
theorem f67_ok : callable QP 67 = true := by kernel_rfl
theorem f67_in (h : GI QP gp [(RV.t 2)] res 4 f67_c4 args) : Does QP gp 67 args res := f67_k.i f67_ok h
def f70_r0:List MO:=[Qa (Qv 6) MOp.mkM,Qa (Qv 3) (Qd (Qn 6))]
def f70_c0:MC:=.r0 f70_r0
def f70_r2:List MO:=[Qa (Qv 7) (Qf 1 false (Qn 1)),Qa (Qv 8) (Qk Qt (Qn 7)),Qa (Qv 9) (Qd (Qo (Qp (Qq (Qr Qu 0)))))]
def f70_c2:MC:=.r0 f70_r2
def f70_r3:List MO:=[Qa (Qv 10) (Qe Qt Go.BinOp.lss (Qn 9) (Qn 8))]
def f70_c3:MC:=.r0 f70_r3
def f70_r7:List MO:=[Qa (Qv 11) (Qj 3 (Qn 7) (Qn 9)),Qa (Qv 12) (Qf 3 true (Qn 11)),Qa (Qv 5) (MOp.alloc [(Qr Qu 0),(Qr Qu 0),(D.str (ByteArray.mk #[]))]),Qa none (Ql 3 (Qn 5) (Qn 12))]
def f70_c7:MC:=.r0 f70_r7
def f70_r8:List MO:=[Qa (Qv 13) (Qd (Qn 3)),Qa (Qv 14) (Qf 3 true (Qn 5)),Qa (Qv 15) (MOp.lkp false (Qp (Qq (Qs false))) true [Qt,Qt,Leaf.s] (Qn 13) (Qn 14)),Qa (Qv 16) (Qd (Qn 15)),Qb 16 false (Qv 17),Qa (Qv 17) (Qd (Qn 0)),Qb 16 false (Qv 18),Qa (Qv 18) (Qf 3 true (Qn 5)),Qb 16 false (Qv 19),Qa (Qv 19) (MOp.callv (Qn 17) [(Qn 18)]),Qb 16 false (Qv 20),Qa (Qv 20) (MOp.not (Qn 19)),Qa (Qv 21) (Qm (Qn 16) (Qo (Qp (Qq (Qs true)))) (Qn 20))]
def f70_c8:MC:=.r0 f70_r8
def f70_r13:List MO:=[Qa (Qv 22) (Qd (Qn 3)),Qa (Qv 23) (Qf 3 true (Qn 5)),Qa none (MOp.mupd true [Qt,Qt,Leaf.s] (Qn 22) (Qn 23) (Qo (Qp (Qq (Qs true)))))]
def f70_c13:MC:=.r0 f70_r13
def f70_r17:List MO:=[Qa (Qv 24) (Qe Qt Go.BinOp.add (Qn 9) (Qo (Qp (Qq (Qr Qu 1))))),Qa (Qv 9) (Qd (Qn 24))]
def f70_c17:MC:=.r0 f70_r17
def f70_c18:MC:=.seq (.blk 1 (.seq f70_c7 (.seq (.seq f70_c8 (.cond (Qn 21) (MC.exit 0) .skip)) f70_c13))) f70_c17
def f70_c25:MC:=.seq f70_c0 (.seq .skip (.seq f70_c2 (.blk 0 (.loop (.seq f70_c3 (.seq (.cond (Qn 10) .skip (MC.exit 0)) f70_c18))))))
def f70_c26:MC:=.scope f70_c25
attribute [go_sem] f70_r0 f70_r2 f70_r3 f70_r7 f70_r8 f70_r13 f70_r17
theorem f70_k : KK QP 70 f70 [] f70_c26 [] 25 := by refine ⟨func70,?_,?_,?_,?_⟩<;>kernel_rfl
theorem f70_ok : callable QP 70 = true := by kernel_rfl
theorem f70_tri (h : GT QP gp [] pre R 25 f70_c26 args) : Tri QP gp 70 args pre R := f70_k.t h
-- f71: no body
-- f72: no body
-- f73: no body
-- f74: no body
-- f75: no body
-- f76: no body
-- f77: no body
-- f78: no body
-- f79: no body
-- f80: no body
-- f81: no body
-- f82: no body
-- f83: no body
-- f84: no body
-- f85: no body
-- f86: no body
-- f87: no body
-- f88: no body
-- f89: no body
-- f90: no body
-- f91: no body
-- f92: no body
-- f93: no body
-- f94: no body
-- f95: no body
-- f96: no body
-- f97: no body
-- f98: no body
-- f99: no body
-- f100: no body
-- f101: no body
-- f102: no body
-- f103: no body
-- f104: no body
-- f105: no body
-- f106: no body
-- f107: no body
-- f108: no body
end Go.Fw.L07
